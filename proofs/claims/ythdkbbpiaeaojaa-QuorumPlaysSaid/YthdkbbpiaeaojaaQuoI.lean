/- The servers of a set as a list: the iterator and the loop over it. -/
import Derived.RangeFuncNested
import Derived.RangeFuncBox
import Derived.RangeFuncBound
import Derived.RangeFuncCalls
import Derived.RangeFuncLeaves
import Derived.Shelf.Abstract
import Derived.Shelf.RegionOpen
import Derived.WalkKit
import Derived.OwnWalkIn
import Derived.TacticsInMore
import Derived.LoopNIn
import Derived.LoopIn
import Derived.Maps.AppendAt
import Derived.Stop.RegionWithIn
import Derived.Test.YthdkbbpiaeaojaaQuoA
namespace Go.Proofs.Ythdkbbpiaeaojaa.K
open Go Go.Proofs Go.RowKit Go.Shelf
set_option linter.unusedVariables false
set_option linter.unusedSimpArgs false
attribute [local go_sem] Oper.semAt_some

/-- The cells of a set. -/
structure SetC (W : World) (b : Nat) (c : GConfig) (m : Nat) : Prop where
  n : W.cell? ⟨b, 0, none⟩ = some (.int .i64 c.N)
  w0 : W.cell? ⟨b, 3, none⟩ = some (.int .u64 ((wd m 0 : Nat) : Int))
  w1 : W.cell? ⟨b, 4, none⟩ = some (.int .u64 ((wd m 1 : Nat) : Int))
  w2 : W.cell? ⟨b, 5, none⟩ = some (.int .u64 ((wd m 2 : Nat) : Int))
  w3 : W.cell? ⟨b, 6, none⟩ = some (.int .u64 ((wd m 3 : Nat) : Int))
theorem SetC.of {W : World} {b : Nat} {c : GConfig} {m : Nat} (h : (Res.row b [.int .i64 c.N, .int .i64 c.K, .int .i64 c.Delta, .int .u64 ((wd m 0 : Nat) : Int), .int .u64 ((wd m 1 : Nat) : Int), .int .u64 ((wd m 2 : Nat) : Int), .int .u64 ((wd m 3 : Nat) : Int)] 133).holds W) : SetC W b c m :=
  ⟨cell_row h 0 _ rfl, cell_row h 3 _ rfl, cell_row h 4 _ rfl, cell_row h 5 _ rfl, cell_row h 6 _ rfl⟩
theorem SetC.below {n₀ : Nat} {A B : World} {b : Nat} {c : GConfig} {m : Nat} (h : Below n₀ A B) (hb : b < n₀) (s : SetC A b c m) : SetC B b c m :=
  ⟨(h.cell (p := ⟨b, 0, none⟩) hb).trans s.n, (h.cell (p := ⟨b, 3, none⟩) hb).trans s.w0, (h.cell (p := ⟨b, 4, none⟩) hb).trans s.w1, (h.cell (p := ⟨b, 5, none⟩) hb).trans s.w2, (h.cell (p := ⟨b, 6, none⟩) hb).trans s.w3⟩
theorem fram_grown {w w' : World} (h : Fram Non w w') : w.grownBy w' none := ⟨h.os, h.tape, h.output, h.size, fun k hk _ => h.block k hk id⟩
theorem q_has_in (m k : Nat) (tb : Bool) (ht : m.testBit k = tb) (hk : k < 256) (n : Nat) (w : World) :
    CallsIn Fence.wide n Try.prog 83 #[.agg #[.int .u64 ((wd m 0 : Nat) : Int), .int .u64 ((wd m 1 : Nat) : Int), .int .u64 ((wd m 2 : Nat) : Int), .int .u64 ((wd m 3 : Nat) : Int)], .int .i64 (k : Int)] w fun e w' => e = .returned (.bool tb) ∧ w.grownBy w' none := by
  subst ht
  refine callsIn_wide.2 ((q_has m (k : Int) (by omega) (by omega) w).mono ?_)
  rintro e w' ⟨b, rfl, hb, hf⟩
  refine ⟨?_, fram_grown hf⟩
  unfold Bp at hb
  have : b = m.testBit k := by rw [Bool.eq_iff_iff, hb]; simp
  rw [this]
theorem sel_miss {m k : Nat} {b : Bool} (h : ¬ m.testBit k = b) : sel m b (k + 1) = sel m b k := by rw [sel_succ, if_neg h, List.append_nil]
theorem sel_hit {m k : Nat} {b : Bool} (h : m.testBit k = b) : sel m b (k + 1) = sel m b k ++ [k] := by rw [sel_succ, if_pos h]
theorem sel_mono {m k : Nat} {b : Bool} : ∀ {n : Nat}, k ≤ n → sel m b k <+: sel m b n
  | 0, h => by obtain rfl : k = 0 := by omega
               exact List.prefix_rfl
  | n + 1, h => by
    rcases Nat.lt_or_ge n k with q | q
    · obtain rfl : k = n + 1 := by omega
      exact List.prefix_rfl
    · exact (sel_mono q).trans (by rw [sel_succ]; exact List.prefix_append _ _)
theorem sel_pre {m k n : Nat} {b : Bool} (h : m.testBit k = b) (hk : k < n) : sel m b k ++ [k] <+: sel m b n := by rw [← sel_hit h]; exact sel_mono hk
theorem sel_lt {m k n : Nat} {b : Bool} (h : m.testBit k = b) (hk : k < n) : (sel m b k).length < (sel m b n).length := by have := (sel_pre h hk).length_le; simp at this; omega
set_option maxRecDepth 100000 in
set_option maxHeartbeats 4000000 in
theorem each1_in (n : Nat) (hn : 1 ≤ n) (l B1 B2 b n₀ : Nat) (c : GConfig) (m : Nat) (inn : Bool) (hok : okCfg c) (h3 : b < n₀) (J Jx : List Nat → World → Prop) (M0 : Nat) (hJ : AbidesFrom M0 J) (Kp : World → World → Prop) (hKp : ∀ A B, Kp A B → Below n₀ A B ∧ A.heap.size ≤ B.heap.size ∧ B.cell? ⟨B1, 0, none⟩ = A.cell? ⟨B1, 0, none⟩ ∧ B.cell? ⟨B2, 0, none⟩ = A.cell? ⟨B2, 0, none⟩)
    (hY : ∀ pre (x : Nat) W, J pre W → pre.length < (sel m inn c.N.toNat).length → YieldAt Fence.wide (n - 1) Try.prog l #[.int .i64 (x : Int)] W fun e W' =>
      (e = .returned (.bool true) ∧ J (pre ++ [x]) W' ∧ Kp W W') ∨ (e = .returned (.bool false) ∧ Jx (pre ++ [x]) W'))
    (W : World) (hz : n₀ ≤ W.heap.size) (h1 : B1 < W.heap.size) (h2 : B2 < W.heap.size) (hB1 : W.cell? ⟨B1, 0, none⟩ = some (.pointer (some ⟨b, 0, none⟩))) (hB2 : W.cell? ⟨B2, 0, none⟩ = some (.bool inn)) (hS : SetC W b c m) (h0 : J [] W) :
    CallsIn Fence.wide n Try.prog 131 #[.func (.yield l) #[] #[], .pointer (some ⟨B1, 0, none⟩), .pointer (some ⟨B2, 0, none⟩)] W fun e W' => (∃ v, e = .returned v) ∧
      ((∃ ys, ys = sel m inn c.N.toNat ∧ J ys W') ∨ (∃ pre : List Nat, pre <+: sel m inn c.N.toNat ∧ Jx pre W')) := by
  have hN : 1 ≤ c.N ∧ c.N ≤ 255 := by unfold okCfg at hok; omega
  obtain ⟨N, hNe⟩ := Int.eq_ofNat_of_zero_le (show 0 ≤ c.N by omega)
  have eN : c.N.toNat = N := by omega
  rw [eN] at hY ⊢
  refine callsIn_of_wp Try.func131 rfl trivial ?_ rfl
  simp only [Try.ntmps131, List.size_toArray, List.length_cons, List.length_nil, Nat.reduceAdd, Nat.reduceSub, Array.replicate_succ, Array.replicate_zero, List.push_toArray, List.append_toArray, List.nil_append, List.cons_append]
  gi_wp2
  gi_loopw [4] (fun i wr => ∃ k : Nat, k ≤ N ∧ i = .int .i64 (k : Int) ∧ J (sel m inn k) wr ∧ (n₀ ≤ wr.heap.size ∧ B1 < wr.heap.size ∧ B2 < wr.heap.size) ∧ wr.cell? ⟨B1, 0, none⟩ = some (.pointer (some ⟨b, 0, none⟩)) ∧ wr.cell? ⟨B2, 0, none⟩ = some (.bool inn) ∧ SetC wr b c m)
    (fun i wr => N - (intOf i).toNat)
  case atStart => exact ⟨0, Nat.zero_le _, rfl, h0, ⟨hz, h1, h2⟩, hB1, hB2, hS⟩
  case round =>
    obtain ⟨k, hk, rfl, hJk, ⟨hzk, hz1, hz2⟩, c1, c2, hSk⟩ := hrel
    have cn := hSk.n
    rw [hNe] at cn
    by_cases hlt : k < N
    · have c3 := hSk.w0
      have c4 := hSk.w1
      have c5 := hSk.w2
      have c6 := hSk.w3
      have hkN : ((k : Int) < (N : Int)) := by omega
      cases ht : m.testBit k <;> cases inn
      · gi_wp2
        refine wpIn_region_any (by kernel_rfl) ?_
        show wpAnyIn _ _ _ _ _ _ 14 _ _ _
        refine wpAnyIn_take (i := 4) (v := ?_) rfl rfl (by kernel_rfl) (by kernel_rfl) (by kernel_rfl) (fun _ _ _ h => h) ⟨Or.inl ⟨by rfl, fun w => by go_simp; with_reducible rfl⟩, fun _ => rfl⟩ ?_
        refine wpAnyIn_ready (rs := [0, 6]) (by kernel_rfl) (by simp) ?_
        refine AllReadyIn.cons rfl (fun K hK => ?_) ?_
        · go_simp
          refine hK _ _ ?_
          refine wpAnyIn_take (i := 1) (v := ?_) rfl rfl (by kernel_rfl) (by kernel_rfl) (by kernel_rfl) (fun _ _ _ h => h) ⟨Or.inl ⟨by rfl, fun w => by go_simp; with_reducible rfl⟩, fun _ => rfl⟩ ?_
          refine wpAnyIn_take (i := 2) (v := ?_) rfl rfl (by kernel_rfl) (by kernel_rfl) (by kernel_rfl) (fun _ _ _ h => h) ⟨Or.inl ⟨by rfl, fun w => by go_simp; with_reducible rfl⟩, fun _ => rfl⟩ ?_
          refine wpAnyIn_ready (rs := [3, 6]) (by kernel_rfl) (by simp) ?_
          refine AllReadyIn.cons rfl (fun K hK => ?_) ?_
          · go_simp
            refine hK _ _ ?_
            refine wpAnyIn_ready (rs := [5, 6]) (by kernel_rfl) (by simp) ?_
            refine AllReadyIn.cons rfl (fun K hK => ?_) ?_
            · go_simp
              refine ⟨trivial, ?_⟩
              refine (q_has_in m k false ht (by omega) _ _).mono ?_
              rintro e w1 ⟨rfl, hg⟩
              have d2 : w1.cell? ⟨B2, 0, none⟩ = some (.bool false) := (World.cell?_of_block (a := ⟨B2, 0, none⟩) (hg.block B2 (by simp; omega) (by simp))).trans (by simpa using c2)
              have d1 : w1.cell? ⟨B1, 0, none⟩ = some (.pointer (some ⟨b, 0, none⟩)) := (World.cell?_of_block (a := ⟨B1, 0, none⟩) (hg.block B1 (by simp; omega) (by simp))).trans (by simpa using c1)
              have hg2 : wr.grownBy w1 none := ⟨hg.os, hg.tape, hg.output, hg.size, hg.block⟩
              have hb2 : Below n₀ wr w1 := ⟨hg2.os, hg2.tape, hg2.output, hg2.size, fun i hi => hg2.block i (by omega) (by simp)⟩
              have hJ1 : J (sel m false k) w1 := hJ _ _ _ none hJk hg2 (fun r e => by cases e)
              obtain ⟨fn, tmps, assign, body, hy, hR⟩ := hY (sel m false k) k w1 hJ1 (sel_lt ht hlt)
              refine hK _ _ ?_
              refine wpAnyIn_ready (rs := [6]) (by kernel_rfl) (by simp) ?_
              refine AllReadyIn.cons rfl (fun K hK => ?_) AllReadyIn.nil
              go_simp
              refine hK _ _ ?_
              refine wpAnyIn_ready (rs := [7]) (by kernel_rfl) (by simp) ?_
              refine AllReadyIn.cons rfl (fun K hK => ?_) AllReadyIn.nil
              go_simp
              refine hK _ _ ?_
              refine wpAnyIn_ready (rs := [8]) (by kernel_rfl) (by simp) ?_
              refine AllReadyIn.cons rfl (fun K hK => ?_) AllReadyIn.nil
              go_simp
              refine hK _ _ ?_
              refine wpAnyIn_ready (rs := [9, 10]) (by kernel_rfl) (by simp) ?_
              refine AllReadyIn.cons rfl (fun K hK => ?_) ?_
              · go_simp
                refine hK _ _ ?_
                refine wpAnyIn_ready (rs := [10]) (by kernel_rfl) (by simp) ?_
                refine AllReadyIn.cons rfl (fun K hK => ?_) AllReadyIn.nil
                go_simp
                refine hK _ _ ?_
                refine wpAnyIn_ready (rs := [11]) (by kernel_rfl) (by simp) ?_
                refine AllReadyIn.cons rfl (fun K hK => ?_) AllReadyIn.nil
                go_simp
                refine hR.mono ?_
                rintro e W3 (⟨rfl, hJ3, hk3⟩ | ⟨rfl, hJx3⟩)
                · refine hK _ _ ?_
                  refine wpAnyIn_ready (rs := [12]) (by kernel_rfl) (by simp) ?_
                  refine AllReadyIn.cons rfl (fun K hK => ?_) AllReadyIn.nil
                  go_simp
                  refine hK _ _ ?_
                  refine wpAnyIn_ready (rs := [13]) (by kernel_rfl) (by simp) ?_
                  refine AllReadyIn.cons rfl (fun K hK => ?_) AllReadyIn.nil
                  go_simp
                  refine hK _ _ ?_
                  refine wpAnyIn_done (by kernel_rfl) ?_ _
                  obtain ⟨q1, q2, q3, q4⟩ := hKp _ _ hk3
                  gi_wp2
                  go_roundw
                  case rel => exact ⟨k + 1, by omega, by go_num, by rw [sel_hit ht]; exact hJ3, by have := hg2.size; have := q2; omega, q3.trans d1, q4.trans d2, hSk.below (hb2.trans q1) h3⟩
                  case measure => simp [intOf]; omega
                · refine hK _ _ ?_
                  refine wpAnyIn_ready (rs := [12]) (by kernel_rfl) (by simp) ?_
                  refine AllReadyIn.cons rfl (fun K hK => ?_) AllReadyIn.nil
                  go_simp
                  refine hK _ _ ?_
                  refine wpAnyIn_ready (rs := [13]) (by kernel_rfl) (by simp) ?_
                  refine AllReadyIn.cons rfl (fun K hK => ?_) AllReadyIn.nil
                  go_simp
                  refine hK _ _ ?_
                  refine wpAnyIn_done (by kernel_rfl) ?_ _
                  gi_wp2
                  refine bodyPost_ret (results_none rfl _ _ _) rfl ?_
                  exact ⟨⟨_, rfl⟩, .inr ⟨_, sel_pre ht hlt, hJx3⟩⟩
              refine AllReadyIn.cons rfl (fun K hK => ?_) AllReadyIn.nil
              go_simp
              refine hK _ _ ?_
              refine wpAnyIn_ready (rs := [9]) (by kernel_rfl) (by simp) ?_
              refine AllReadyIn.cons rfl (fun K hK => ?_) AllReadyIn.nil
              go_simp
              refine hK _ _ ?_
              refine wpAnyIn_ready (rs := [11]) (by kernel_rfl) (by simp) ?_
              refine AllReadyIn.cons rfl (fun K hK => ?_) AllReadyIn.nil
              go_simp
              refine hR.mono ?_
              rintro e W3 (⟨rfl, hJ3, hk3⟩ | ⟨rfl, hJx3⟩)
              · refine hK _ _ ?_
                refine wpAnyIn_ready (rs := [12]) (by kernel_rfl) (by simp) ?_
                refine AllReadyIn.cons rfl (fun K hK => ?_) AllReadyIn.nil
                go_simp
                refine hK _ _ ?_
                refine wpAnyIn_ready (rs := [13]) (by kernel_rfl) (by simp) ?_
                refine AllReadyIn.cons rfl (fun K hK => ?_) AllReadyIn.nil
                go_simp
                refine hK _ _ ?_
                refine wpAnyIn_done (by kernel_rfl) ?_ _
                obtain ⟨q1, q2, q3, q4⟩ := hKp _ _ hk3
                gi_wp2
                go_roundw
                case rel => exact ⟨k + 1, by omega, by go_num, by rw [sel_hit ht]; exact hJ3, by have := hg2.size; have := q2; omega, q3.trans d1, q4.trans d2, hSk.below (hb2.trans q1) h3⟩
                case measure => simp [intOf]; omega
              · refine hK _ _ ?_
                refine wpAnyIn_ready (rs := [12]) (by kernel_rfl) (by simp) ?_
                refine AllReadyIn.cons rfl (fun K hK => ?_) AllReadyIn.nil
                go_simp
                refine hK _ _ ?_
                refine wpAnyIn_ready (rs := [13]) (by kernel_rfl) (by simp) ?_
                refine AllReadyIn.cons rfl (fun K hK => ?_) AllReadyIn.nil
                go_simp
                refine hK _ _ ?_
                refine wpAnyIn_done (by kernel_rfl) ?_ _
                gi_wp2
                refine bodyPost_ret (results_none rfl _ _ _) rfl ?_
                exact ⟨⟨_, rfl⟩, .inr ⟨_, sel_pre ht hlt, hJx3⟩⟩
            refine AllReadyIn.cons rfl (fun K hK => ?_) AllReadyIn.nil
            go_simp
            refine hK _ _ ?_
            refine wpAnyIn_ready (rs := [5]) (by kernel_rfl) (by simp) ?_
            refine AllReadyIn.cons rfl (fun K hK => ?_) AllReadyIn.nil
            go_simp
            refine ⟨trivial, ?_⟩
            refine (q_has_in m k false ht (by omega) _ _).mono ?_
            rintro e w1 ⟨rfl, hg⟩
            have d2 : w1.cell? ⟨B2, 0, none⟩ = some (.bool false) := (World.cell?_of_block (a := ⟨B2, 0, none⟩) (hg.block B2 (by simp; omega) (by simp))).trans (by simpa using c2)
            have d1 : w1.cell? ⟨B1, 0, none⟩ = some (.pointer (some ⟨b, 0, none⟩)) := (World.cell?_of_block (a := ⟨B1, 0, none⟩) (hg.block B1 (by simp; omega) (by simp))).trans (by simpa using c1)
            have hg2 : wr.grownBy w1 none := ⟨hg.os, hg.tape, hg.output, hg.size, hg.block⟩
            have hb2 : Below n₀ wr w1 := ⟨hg2.os, hg2.tape, hg2.output, hg2.size, fun i hi => hg2.block i (by omega) (by simp)⟩
            have hJ1 : J (sel m false k) w1 := hJ _ _ _ none hJk hg2 (fun r e => by cases e)
            obtain ⟨fn, tmps, assign, body, hy, hR⟩ := hY (sel m false k) k w1 hJ1 (sel_lt ht hlt)
            refine hK _ _ ?_
            refine wpAnyIn_ready (rs := [7]) (by kernel_rfl) (by simp) ?_
            refine AllReadyIn.cons rfl (fun K hK => ?_) AllReadyIn.nil
            go_simp
            refine hK _ _ ?_
            refine wpAnyIn_ready (rs := [8]) (by kernel_rfl) (by simp) ?_
            refine AllReadyIn.cons rfl (fun K hK => ?_) AllReadyIn.nil
            go_simp
            refine hK _ _ ?_
            refine wpAnyIn_ready (rs := [9, 10]) (by kernel_rfl) (by simp) ?_
            refine AllReadyIn.cons rfl (fun K hK => ?_) ?_
            · go_simp
              refine hK _ _ ?_
              refine wpAnyIn_ready (rs := [10]) (by kernel_rfl) (by simp) ?_
              refine AllReadyIn.cons rfl (fun K hK => ?_) AllReadyIn.nil
              go_simp
              refine hK _ _ ?_
              refine wpAnyIn_ready (rs := [11]) (by kernel_rfl) (by simp) ?_
              refine AllReadyIn.cons rfl (fun K hK => ?_) AllReadyIn.nil
              go_simp
              refine hR.mono ?_
              rintro e W3 (⟨rfl, hJ3, hk3⟩ | ⟨rfl, hJx3⟩)
              · refine hK _ _ ?_
                refine wpAnyIn_ready (rs := [12]) (by kernel_rfl) (by simp) ?_
                refine AllReadyIn.cons rfl (fun K hK => ?_) AllReadyIn.nil
                go_simp
                refine hK _ _ ?_
                refine wpAnyIn_ready (rs := [13]) (by kernel_rfl) (by simp) ?_
                refine AllReadyIn.cons rfl (fun K hK => ?_) AllReadyIn.nil
                go_simp
                refine hK _ _ ?_
                refine wpAnyIn_done (by kernel_rfl) ?_ _
                obtain ⟨q1, q2, q3, q4⟩ := hKp _ _ hk3
                gi_wp2
                go_roundw
                case rel => exact ⟨k + 1, by omega, by go_num, by rw [sel_hit ht]; exact hJ3, by have := hg2.size; have := q2; omega, q3.trans d1, q4.trans d2, hSk.below (hb2.trans q1) h3⟩
                case measure => simp [intOf]; omega
              · refine hK _ _ ?_
                refine wpAnyIn_ready (rs := [12]) (by kernel_rfl) (by simp) ?_
                refine AllReadyIn.cons rfl (fun K hK => ?_) AllReadyIn.nil
                go_simp
                refine hK _ _ ?_
                refine wpAnyIn_ready (rs := [13]) (by kernel_rfl) (by simp) ?_
                refine AllReadyIn.cons rfl (fun K hK => ?_) AllReadyIn.nil
                go_simp
                refine hK _ _ ?_
                refine wpAnyIn_done (by kernel_rfl) ?_ _
                gi_wp2
                refine bodyPost_ret (results_none rfl _ _ _) rfl ?_
                exact ⟨⟨_, rfl⟩, .inr ⟨_, sel_pre ht hlt, hJx3⟩⟩
            refine AllReadyIn.cons rfl (fun K hK => ?_) AllReadyIn.nil
            go_simp
            refine hK _ _ ?_
            refine wpAnyIn_ready (rs := [9]) (by kernel_rfl) (by simp) ?_
            refine AllReadyIn.cons rfl (fun K hK => ?_) AllReadyIn.nil
            go_simp
            refine hK _ _ ?_
            refine wpAnyIn_ready (rs := [11]) (by kernel_rfl) (by simp) ?_
            refine AllReadyIn.cons rfl (fun K hK => ?_) AllReadyIn.nil
            go_simp
            refine hR.mono ?_
            rintro e W3 (⟨rfl, hJ3, hk3⟩ | ⟨rfl, hJx3⟩)
            · refine hK _ _ ?_
              refine wpAnyIn_ready (rs := [12]) (by kernel_rfl) (by simp) ?_
              refine AllReadyIn.cons rfl (fun K hK => ?_) AllReadyIn.nil
              go_simp
              refine hK _ _ ?_
              refine wpAnyIn_ready (rs := [13]) (by kernel_rfl) (by simp) ?_
              refine AllReadyIn.cons rfl (fun K hK => ?_) AllReadyIn.nil
              go_simp
              refine hK _ _ ?_
              refine wpAnyIn_done (by kernel_rfl) ?_ _
              obtain ⟨q1, q2, q3, q4⟩ := hKp _ _ hk3
              gi_wp2
              go_roundw
              case rel => exact ⟨k + 1, by omega, by go_num, by rw [sel_hit ht]; exact hJ3, by have := hg2.size; have := q2; omega, q3.trans d1, q4.trans d2, hSk.below (hb2.trans q1) h3⟩
              case measure => simp [intOf]; omega
            · refine hK _ _ ?_
              refine wpAnyIn_ready (rs := [12]) (by kernel_rfl) (by simp) ?_
              refine AllReadyIn.cons rfl (fun K hK => ?_) AllReadyIn.nil
              go_simp
              refine hK _ _ ?_
              refine wpAnyIn_ready (rs := [13]) (by kernel_rfl) (by simp) ?_
              refine AllReadyIn.cons rfl (fun K hK => ?_) AllReadyIn.nil
              go_simp
              refine hK _ _ ?_
              refine wpAnyIn_done (by kernel_rfl) ?_ _
              gi_wp2
              refine bodyPost_ret (results_none rfl _ _ _) rfl ?_
              exact ⟨⟨_, rfl⟩, .inr ⟨_, sel_pre ht hlt, hJx3⟩⟩
          refine AllReadyIn.cons rfl (fun K hK => ?_) AllReadyIn.nil
          go_simp
          refine hK _ _ ?_
          refine wpAnyIn_ready (rs := [3]) (by kernel_rfl) (by simp) ?_
          refine AllReadyIn.cons rfl (fun K hK => ?_) AllReadyIn.nil
          go_simp
          refine hK _ _ ?_
          refine wpAnyIn_ready (rs := [5]) (by kernel_rfl) (by simp) ?_
          refine AllReadyIn.cons rfl (fun K hK => ?_) AllReadyIn.nil
          go_simp
          refine ⟨trivial, ?_⟩
          refine (q_has_in m k false ht (by omega) _ _).mono ?_
          rintro e w1 ⟨rfl, hg⟩
          have d2 : w1.cell? ⟨B2, 0, none⟩ = some (.bool false) := (World.cell?_of_block (a := ⟨B2, 0, none⟩) (hg.block B2 (by simp; omega) (by simp))).trans (by simpa using c2)
          have d1 : w1.cell? ⟨B1, 0, none⟩ = some (.pointer (some ⟨b, 0, none⟩)) := (World.cell?_of_block (a := ⟨B1, 0, none⟩) (hg.block B1 (by simp; omega) (by simp))).trans (by simpa using c1)
          have hg2 : wr.grownBy w1 none := ⟨hg.os, hg.tape, hg.output, hg.size, hg.block⟩
          have hb2 : Below n₀ wr w1 := ⟨hg2.os, hg2.tape, hg2.output, hg2.size, fun i hi => hg2.block i (by omega) (by simp)⟩
          have hJ1 : J (sel m false k) w1 := hJ _ _ _ none hJk hg2 (fun r e => by cases e)
          obtain ⟨fn, tmps, assign, body, hy, hR⟩ := hY (sel m false k) k w1 hJ1 (sel_lt ht hlt)
          refine hK _ _ ?_
          refine wpAnyIn_ready (rs := [7]) (by kernel_rfl) (by simp) ?_
          refine AllReadyIn.cons rfl (fun K hK => ?_) AllReadyIn.nil
          go_simp
          refine hK _ _ ?_
          refine wpAnyIn_ready (rs := [8]) (by kernel_rfl) (by simp) ?_
          refine AllReadyIn.cons rfl (fun K hK => ?_) AllReadyIn.nil
          go_simp
          refine hK _ _ ?_
          refine wpAnyIn_ready (rs := [9, 10]) (by kernel_rfl) (by simp) ?_
          refine AllReadyIn.cons rfl (fun K hK => ?_) ?_
          · go_simp
            refine hK _ _ ?_
            refine wpAnyIn_ready (rs := [10]) (by kernel_rfl) (by simp) ?_
            refine AllReadyIn.cons rfl (fun K hK => ?_) AllReadyIn.nil
            go_simp
            refine hK _ _ ?_
            refine wpAnyIn_ready (rs := [11]) (by kernel_rfl) (by simp) ?_
            refine AllReadyIn.cons rfl (fun K hK => ?_) AllReadyIn.nil
            go_simp
            refine hR.mono ?_
            rintro e W3 (⟨rfl, hJ3, hk3⟩ | ⟨rfl, hJx3⟩)
            · refine hK _ _ ?_
              refine wpAnyIn_ready (rs := [12]) (by kernel_rfl) (by simp) ?_
              refine AllReadyIn.cons rfl (fun K hK => ?_) AllReadyIn.nil
              go_simp
              refine hK _ _ ?_
              refine wpAnyIn_ready (rs := [13]) (by kernel_rfl) (by simp) ?_
              refine AllReadyIn.cons rfl (fun K hK => ?_) AllReadyIn.nil
              go_simp
              refine hK _ _ ?_
              refine wpAnyIn_done (by kernel_rfl) ?_ _
              obtain ⟨q1, q2, q3, q4⟩ := hKp _ _ hk3
              gi_wp2
              go_roundw
              case rel => exact ⟨k + 1, by omega, by go_num, by rw [sel_hit ht]; exact hJ3, by have := hg2.size; have := q2; omega, q3.trans d1, q4.trans d2, hSk.below (hb2.trans q1) h3⟩
              case measure => simp [intOf]; omega
            · refine hK _ _ ?_
              refine wpAnyIn_ready (rs := [12]) (by kernel_rfl) (by simp) ?_
              refine AllReadyIn.cons rfl (fun K hK => ?_) AllReadyIn.nil
              go_simp
              refine hK _ _ ?_
              refine wpAnyIn_ready (rs := [13]) (by kernel_rfl) (by simp) ?_
              refine AllReadyIn.cons rfl (fun K hK => ?_) AllReadyIn.nil
              go_simp
              refine hK _ _ ?_
              refine wpAnyIn_done (by kernel_rfl) ?_ _
              gi_wp2
              refine bodyPost_ret (results_none rfl _ _ _) rfl ?_
              exact ⟨⟨_, rfl⟩, .inr ⟨_, sel_pre ht hlt, hJx3⟩⟩
          refine AllReadyIn.cons rfl (fun K hK => ?_) AllReadyIn.nil
          go_simp
          refine hK _ _ ?_
          refine wpAnyIn_ready (rs := [9]) (by kernel_rfl) (by simp) ?_
          refine AllReadyIn.cons rfl (fun K hK => ?_) AllReadyIn.nil
          go_simp
          refine hK _ _ ?_
          refine wpAnyIn_ready (rs := [11]) (by kernel_rfl) (by simp) ?_
          refine AllReadyIn.cons rfl (fun K hK => ?_) AllReadyIn.nil
          go_simp
          refine hR.mono ?_
          rintro e W3 (⟨rfl, hJ3, hk3⟩ | ⟨rfl, hJx3⟩)
          · refine hK _ _ ?_
            refine wpAnyIn_ready (rs := [12]) (by kernel_rfl) (by simp) ?_
            refine AllReadyIn.cons rfl (fun K hK => ?_) AllReadyIn.nil
            go_simp
            refine hK _ _ ?_
            refine wpAnyIn_ready (rs := [13]) (by kernel_rfl) (by simp) ?_
            refine AllReadyIn.cons rfl (fun K hK => ?_) AllReadyIn.nil
            go_simp
            refine hK _ _ ?_
            refine wpAnyIn_done (by kernel_rfl) ?_ _
            obtain ⟨q1, q2, q3, q4⟩ := hKp _ _ hk3
            gi_wp2
            go_roundw
            case rel => exact ⟨k + 1, by omega, by go_num, by rw [sel_hit ht]; exact hJ3, by have := hg2.size; have := q2; omega, q3.trans d1, q4.trans d2, hSk.below (hb2.trans q1) h3⟩
            case measure => simp [intOf]; omega
          · refine hK _ _ ?_
            refine wpAnyIn_ready (rs := [12]) (by kernel_rfl) (by simp) ?_
            refine AllReadyIn.cons rfl (fun K hK => ?_) AllReadyIn.nil
            go_simp
            refine hK _ _ ?_
            refine wpAnyIn_ready (rs := [13]) (by kernel_rfl) (by simp) ?_
            refine AllReadyIn.cons rfl (fun K hK => ?_) AllReadyIn.nil
            go_simp
            refine hK _ _ ?_
            refine wpAnyIn_done (by kernel_rfl) ?_ _
            gi_wp2
            refine bodyPost_ret (results_none rfl _ _ _) rfl ?_
            exact ⟨⟨_, rfl⟩, .inr ⟨_, sel_pre ht hlt, hJx3⟩⟩
        refine AllReadyIn.cons rfl (fun K hK => ?_) AllReadyIn.nil
        go_simp
        refine hK _ _ ?_
        refine wpAnyIn_ready (rs := [0]) (by kernel_rfl) (by simp) ?_
        refine AllReadyIn.cons rfl (fun K hK => ?_) AllReadyIn.nil
        go_simp
        refine hK _ _ ?_
        refine wpAnyIn_ready (rs := [1]) (by kernel_rfl) (by simp) ?_
        refine AllReadyIn.cons rfl (fun K hK => ?_) AllReadyIn.nil
        go_simp
        refine hK _ _ ?_
        refine wpAnyIn_ready (rs := [2]) (by kernel_rfl) (by simp) ?_
        refine AllReadyIn.cons rfl (fun K hK => ?_) AllReadyIn.nil
        go_simp
        refine hK _ _ ?_
        refine wpAnyIn_ready (rs := [3]) (by kernel_rfl) (by simp) ?_
        refine AllReadyIn.cons rfl (fun K hK => ?_) AllReadyIn.nil
        go_simp
        refine hK _ _ ?_
        refine wpAnyIn_ready (rs := [5]) (by kernel_rfl) (by simp) ?_
        refine AllReadyIn.cons rfl (fun K hK => ?_) AllReadyIn.nil
        go_simp
        refine ⟨trivial, ?_⟩
        refine (q_has_in m k false ht (by omega) _ _).mono ?_
        rintro e w1 ⟨rfl, hg⟩
        have d2 : w1.cell? ⟨B2, 0, none⟩ = some (.bool false) := (World.cell?_of_block (a := ⟨B2, 0, none⟩) (hg.block B2 (by simp; omega) (by simp))).trans (by simpa using c2)
        have d1 : w1.cell? ⟨B1, 0, none⟩ = some (.pointer (some ⟨b, 0, none⟩)) := (World.cell?_of_block (a := ⟨B1, 0, none⟩) (hg.block B1 (by simp; omega) (by simp))).trans (by simpa using c1)
        have hg2 : wr.grownBy w1 none := ⟨hg.os, hg.tape, hg.output, hg.size, hg.block⟩
        have hb2 : Below n₀ wr w1 := ⟨hg2.os, hg2.tape, hg2.output, hg2.size, fun i hi => hg2.block i (by omega) (by simp)⟩
        have hJ1 : J (sel m false k) w1 := hJ _ _ _ none hJk hg2 (fun r e => by cases e)
        obtain ⟨fn, tmps, assign, body, hy, hR⟩ := hY (sel m false k) k w1 hJ1 (sel_lt ht hlt)
        refine hK _ _ ?_
        refine wpAnyIn_ready (rs := [7]) (by kernel_rfl) (by simp) ?_
        refine AllReadyIn.cons rfl (fun K hK => ?_) AllReadyIn.nil
        go_simp
        refine hK _ _ ?_
        refine wpAnyIn_ready (rs := [8]) (by kernel_rfl) (by simp) ?_
        refine AllReadyIn.cons rfl (fun K hK => ?_) AllReadyIn.nil
        go_simp
        refine hK _ _ ?_
        refine wpAnyIn_ready (rs := [9, 10]) (by kernel_rfl) (by simp) ?_
        refine AllReadyIn.cons rfl (fun K hK => ?_) ?_
        · go_simp
          refine hK _ _ ?_
          refine wpAnyIn_ready (rs := [10]) (by kernel_rfl) (by simp) ?_
          refine AllReadyIn.cons rfl (fun K hK => ?_) AllReadyIn.nil
          go_simp
          refine hK _ _ ?_
          refine wpAnyIn_ready (rs := [11]) (by kernel_rfl) (by simp) ?_
          refine AllReadyIn.cons rfl (fun K hK => ?_) AllReadyIn.nil
          go_simp
          refine hR.mono ?_
          rintro e W3 (⟨rfl, hJ3, hk3⟩ | ⟨rfl, hJx3⟩)
          · refine hK _ _ ?_
            refine wpAnyIn_ready (rs := [12]) (by kernel_rfl) (by simp) ?_
            refine AllReadyIn.cons rfl (fun K hK => ?_) AllReadyIn.nil
            go_simp
            refine hK _ _ ?_
            refine wpAnyIn_ready (rs := [13]) (by kernel_rfl) (by simp) ?_
            refine AllReadyIn.cons rfl (fun K hK => ?_) AllReadyIn.nil
            go_simp
            refine hK _ _ ?_
            refine wpAnyIn_done (by kernel_rfl) ?_ _
            obtain ⟨q1, q2, q3, q4⟩ := hKp _ _ hk3
            gi_wp2
            go_roundw
            case rel => exact ⟨k + 1, by omega, by go_num, by rw [sel_hit ht]; exact hJ3, by have := hg2.size; have := q2; omega, q3.trans d1, q4.trans d2, hSk.below (hb2.trans q1) h3⟩
            case measure => simp [intOf]; omega
          · refine hK _ _ ?_
            refine wpAnyIn_ready (rs := [12]) (by kernel_rfl) (by simp) ?_
            refine AllReadyIn.cons rfl (fun K hK => ?_) AllReadyIn.nil
            go_simp
            refine hK _ _ ?_
            refine wpAnyIn_ready (rs := [13]) (by kernel_rfl) (by simp) ?_
            refine AllReadyIn.cons rfl (fun K hK => ?_) AllReadyIn.nil
            go_simp
            refine hK _ _ ?_
            refine wpAnyIn_done (by kernel_rfl) ?_ _
            gi_wp2
            refine bodyPost_ret (results_none rfl _ _ _) rfl ?_
            exact ⟨⟨_, rfl⟩, .inr ⟨_, sel_pre ht hlt, hJx3⟩⟩
        refine AllReadyIn.cons rfl (fun K hK => ?_) AllReadyIn.nil
        go_simp
        refine hK _ _ ?_
        refine wpAnyIn_ready (rs := [9]) (by kernel_rfl) (by simp) ?_
        refine AllReadyIn.cons rfl (fun K hK => ?_) AllReadyIn.nil
        go_simp
        refine hK _ _ ?_
        refine wpAnyIn_ready (rs := [11]) (by kernel_rfl) (by simp) ?_
        refine AllReadyIn.cons rfl (fun K hK => ?_) AllReadyIn.nil
        go_simp
        refine hR.mono ?_
        rintro e W3 (⟨rfl, hJ3, hk3⟩ | ⟨rfl, hJx3⟩)
        · refine hK _ _ ?_
          refine wpAnyIn_ready (rs := [12]) (by kernel_rfl) (by simp) ?_
          refine AllReadyIn.cons rfl (fun K hK => ?_) AllReadyIn.nil
          go_simp
          refine hK _ _ ?_
          refine wpAnyIn_ready (rs := [13]) (by kernel_rfl) (by simp) ?_
          refine AllReadyIn.cons rfl (fun K hK => ?_) AllReadyIn.nil
          go_simp
          refine hK _ _ ?_
          refine wpAnyIn_done (by kernel_rfl) ?_ _
          obtain ⟨q1, q2, q3, q4⟩ := hKp _ _ hk3
          gi_wp2
          go_roundw
          case rel => exact ⟨k + 1, by omega, by go_num, by rw [sel_hit ht]; exact hJ3, by have := hg2.size; have := q2; omega, q3.trans d1, q4.trans d2, hSk.below (hb2.trans q1) h3⟩
          case measure => simp [intOf]; omega
        · refine hK _ _ ?_
          refine wpAnyIn_ready (rs := [12]) (by kernel_rfl) (by simp) ?_
          refine AllReadyIn.cons rfl (fun K hK => ?_) AllReadyIn.nil
          go_simp
          refine hK _ _ ?_
          refine wpAnyIn_ready (rs := [13]) (by kernel_rfl) (by simp) ?_
          refine AllReadyIn.cons rfl (fun K hK => ?_) AllReadyIn.nil
          go_simp
          refine hK _ _ ?_
          refine wpAnyIn_done (by kernel_rfl) ?_ _
          gi_wp2
          refine bodyPost_ret (results_none rfl _ _ _) rfl ?_
          exact ⟨⟨_, rfl⟩, .inr ⟨_, sel_pre ht hlt, hJx3⟩⟩
      · gi_wp2
        refine wpIn_region_any (by kernel_rfl) ?_
        show wpAnyIn _ _ _ _ _ _ 14 _ _ _
        refine wpAnyIn_take (i := 4) (v := ?_) rfl rfl (by kernel_rfl) (by kernel_rfl) (by kernel_rfl) (fun _ _ _ h => h) ⟨Or.inl ⟨by rfl, fun w => by go_simp; with_reducible rfl⟩, fun _ => rfl⟩ ?_
        refine wpAnyIn_ready (rs := [0, 6]) (by kernel_rfl) (by simp) ?_
        refine AllReadyIn.cons rfl (fun K hK => ?_) ?_
        · go_simp
          refine hK _ _ ?_
          refine wpAnyIn_take (i := 1) (v := ?_) rfl rfl (by kernel_rfl) (by kernel_rfl) (by kernel_rfl) (fun _ _ _ h => h) ⟨Or.inl ⟨by rfl, fun w => by go_simp; with_reducible rfl⟩, fun _ => rfl⟩ ?_
          refine wpAnyIn_take (i := 2) (v := ?_) rfl rfl (by kernel_rfl) (by kernel_rfl) (by kernel_rfl) (fun _ _ _ h => h) ⟨Or.inl ⟨by rfl, fun w => by go_simp; with_reducible rfl⟩, fun _ => rfl⟩ ?_
          refine wpAnyIn_ready (rs := [3, 6]) (by kernel_rfl) (by simp) ?_
          refine AllReadyIn.cons rfl (fun K hK => ?_) ?_
          · go_simp
            refine hK _ _ ?_
            refine wpAnyIn_ready (rs := [5, 6]) (by kernel_rfl) (by simp) ?_
            refine AllReadyIn.cons rfl (fun K hK => ?_) ?_
            · go_simp
              refine ⟨trivial, ?_⟩
              refine (q_has_in m k false ht (by omega) _ _).mono ?_
              rintro e w1 ⟨rfl, hg⟩
              have d2 : w1.cell? ⟨B2, 0, none⟩ = some (.bool true) := (World.cell?_of_block (a := ⟨B2, 0, none⟩) (hg.block B2 (by simp; omega) (by simp))).trans (by simpa using c2)
              have d1 : w1.cell? ⟨B1, 0, none⟩ = some (.pointer (some ⟨b, 0, none⟩)) := (World.cell?_of_block (a := ⟨B1, 0, none⟩) (hg.block B1 (by simp; omega) (by simp))).trans (by simpa using c1)
              have hg2 : wr.grownBy w1 none := ⟨hg.os, hg.tape, hg.output, hg.size, hg.block⟩
              have hb2 : Below n₀ wr w1 := ⟨hg2.os, hg2.tape, hg2.output, hg2.size, fun i hi => hg2.block i (by omega) (by simp)⟩
              have hJ1 : J (sel m true k) w1 := hJ _ _ _ none hJk hg2 (fun r e => by cases e)
              refine hK _ _ ?_
              refine wpAnyIn_ready (rs := [6]) (by kernel_rfl) (by simp) ?_
              refine AllReadyIn.cons rfl (fun K hK => ?_) AllReadyIn.nil
              go_simp
              refine hK _ _ ?_
              refine wpAnyIn_ready (rs := [7]) (by kernel_rfl) (by simp) ?_
              refine AllReadyIn.cons rfl (fun K hK => ?_) AllReadyIn.nil
              go_simp
              refine hK _ _ ?_
              refine wpAnyIn_ready (rs := [8]) (by kernel_rfl) (by simp) ?_
              refine AllReadyIn.cons rfl (fun K hK => ?_) AllReadyIn.nil
              go_simp
              refine hK _ _ ?_
              refine wpAnyIn_ready (rs := [9, 10]) (by kernel_rfl) (by simp) ?_
              refine AllReadyIn.cons rfl (fun K hK => ?_) ?_
              · go_simp
                refine hK _ _ ?_
                refine wpAnyIn_ready (rs := [10]) (by kernel_rfl) (by simp) ?_
                refine AllReadyIn.cons rfl (fun K hK => ?_) AllReadyIn.nil
                go_simp
                refine hK _ _ ?_
                refine wpAnyIn_ready (rs := [11]) (by kernel_rfl) (by simp) ?_
                refine AllReadyIn.cons rfl (fun K hK => ?_) AllReadyIn.nil
                go_simp
                refine ⟨fun _ _ => trivial, hK _ _ ?_⟩
                refine wpAnyIn_ready (rs := [12]) (by kernel_rfl) (by simp) ?_
                refine AllReadyIn.cons rfl (fun K hK => ?_) AllReadyIn.nil
                go_simp
                refine hK _ _ ?_
                refine wpAnyIn_ready (rs := [13]) (by kernel_rfl) (by simp) ?_
                refine AllReadyIn.cons rfl (fun K hK => ?_) AllReadyIn.nil
                go_simp
                refine hK _ _ ?_
                refine wpAnyIn_done (by kernel_rfl) ?_ _
                gi_wp2
                go_roundw
                case rel => exact ⟨k + 1, by omega, by go_num, by rw [sel_miss (by rw [ht]; decide)]; exact hJ1, by have := hg2.size; omega, d1, d2, hSk.below hb2 h3⟩
                case measure => simp [intOf]; omega
              refine AllReadyIn.cons rfl (fun K hK => ?_) AllReadyIn.nil
              go_simp
              refine hK _ _ ?_
              refine wpAnyIn_ready (rs := [9]) (by kernel_rfl) (by simp) ?_
              refine AllReadyIn.cons rfl (fun K hK => ?_) AllReadyIn.nil
              go_simp
              refine hK _ _ ?_
              refine wpAnyIn_ready (rs := [11]) (by kernel_rfl) (by simp) ?_
              refine AllReadyIn.cons rfl (fun K hK => ?_) AllReadyIn.nil
              go_simp
              refine ⟨fun _ _ => trivial, hK _ _ ?_⟩
              refine wpAnyIn_ready (rs := [12]) (by kernel_rfl) (by simp) ?_
              refine AllReadyIn.cons rfl (fun K hK => ?_) AllReadyIn.nil
              go_simp
              refine hK _ _ ?_
              refine wpAnyIn_ready (rs := [13]) (by kernel_rfl) (by simp) ?_
              refine AllReadyIn.cons rfl (fun K hK => ?_) AllReadyIn.nil
              go_simp
              refine hK _ _ ?_
              refine wpAnyIn_done (by kernel_rfl) ?_ _
              gi_wp2
              go_roundw
              case rel => exact ⟨k + 1, by omega, by go_num, by rw [sel_miss (by rw [ht]; decide)]; exact hJ1, by have := hg2.size; omega, d1, d2, hSk.below hb2 h3⟩
              case measure => simp [intOf]; omega
            refine AllReadyIn.cons rfl (fun K hK => ?_) AllReadyIn.nil
            go_simp
            refine hK _ _ ?_
            refine wpAnyIn_ready (rs := [5]) (by kernel_rfl) (by simp) ?_
            refine AllReadyIn.cons rfl (fun K hK => ?_) AllReadyIn.nil
            go_simp
            refine ⟨trivial, ?_⟩
            refine (q_has_in m k false ht (by omega) _ _).mono ?_
            rintro e w1 ⟨rfl, hg⟩
            have d2 : w1.cell? ⟨B2, 0, none⟩ = some (.bool true) := (World.cell?_of_block (a := ⟨B2, 0, none⟩) (hg.block B2 (by simp; omega) (by simp))).trans (by simpa using c2)
            have d1 : w1.cell? ⟨B1, 0, none⟩ = some (.pointer (some ⟨b, 0, none⟩)) := (World.cell?_of_block (a := ⟨B1, 0, none⟩) (hg.block B1 (by simp; omega) (by simp))).trans (by simpa using c1)
            have hg2 : wr.grownBy w1 none := ⟨hg.os, hg.tape, hg.output, hg.size, hg.block⟩
            have hb2 : Below n₀ wr w1 := ⟨hg2.os, hg2.tape, hg2.output, hg2.size, fun i hi => hg2.block i (by omega) (by simp)⟩
            have hJ1 : J (sel m true k) w1 := hJ _ _ _ none hJk hg2 (fun r e => by cases e)
            refine hK _ _ ?_
            refine wpAnyIn_ready (rs := [7]) (by kernel_rfl) (by simp) ?_
            refine AllReadyIn.cons rfl (fun K hK => ?_) AllReadyIn.nil
            go_simp
            refine hK _ _ ?_
            refine wpAnyIn_ready (rs := [8]) (by kernel_rfl) (by simp) ?_
            refine AllReadyIn.cons rfl (fun K hK => ?_) AllReadyIn.nil
            go_simp
            refine hK _ _ ?_
            refine wpAnyIn_ready (rs := [9, 10]) (by kernel_rfl) (by simp) ?_
            refine AllReadyIn.cons rfl (fun K hK => ?_) ?_
            · go_simp
              refine hK _ _ ?_
              refine wpAnyIn_ready (rs := [10]) (by kernel_rfl) (by simp) ?_
              refine AllReadyIn.cons rfl (fun K hK => ?_) AllReadyIn.nil
              go_simp
              refine hK _ _ ?_
              refine wpAnyIn_ready (rs := [11]) (by kernel_rfl) (by simp) ?_
              refine AllReadyIn.cons rfl (fun K hK => ?_) AllReadyIn.nil
              go_simp
              refine ⟨fun _ _ => trivial, hK _ _ ?_⟩
              refine wpAnyIn_ready (rs := [12]) (by kernel_rfl) (by simp) ?_
              refine AllReadyIn.cons rfl (fun K hK => ?_) AllReadyIn.nil
              go_simp
              refine hK _ _ ?_
              refine wpAnyIn_ready (rs := [13]) (by kernel_rfl) (by simp) ?_
              refine AllReadyIn.cons rfl (fun K hK => ?_) AllReadyIn.nil
              go_simp
              refine hK _ _ ?_
              refine wpAnyIn_done (by kernel_rfl) ?_ _
              gi_wp2
              go_roundw
              case rel => exact ⟨k + 1, by omega, by go_num, by rw [sel_miss (by rw [ht]; decide)]; exact hJ1, by have := hg2.size; omega, d1, d2, hSk.below hb2 h3⟩
              case measure => simp [intOf]; omega
            refine AllReadyIn.cons rfl (fun K hK => ?_) AllReadyIn.nil
            go_simp
            refine hK _ _ ?_
            refine wpAnyIn_ready (rs := [9]) (by kernel_rfl) (by simp) ?_
            refine AllReadyIn.cons rfl (fun K hK => ?_) AllReadyIn.nil
            go_simp
            refine hK _ _ ?_
            refine wpAnyIn_ready (rs := [11]) (by kernel_rfl) (by simp) ?_
            refine AllReadyIn.cons rfl (fun K hK => ?_) AllReadyIn.nil
            go_simp
            refine ⟨fun _ _ => trivial, hK _ _ ?_⟩
            refine wpAnyIn_ready (rs := [12]) (by kernel_rfl) (by simp) ?_
            refine AllReadyIn.cons rfl (fun K hK => ?_) AllReadyIn.nil
            go_simp
            refine hK _ _ ?_
            refine wpAnyIn_ready (rs := [13]) (by kernel_rfl) (by simp) ?_
            refine AllReadyIn.cons rfl (fun K hK => ?_) AllReadyIn.nil
            go_simp
            refine hK _ _ ?_
            refine wpAnyIn_done (by kernel_rfl) ?_ _
            gi_wp2
            go_roundw
            case rel => exact ⟨k + 1, by omega, by go_num, by rw [sel_miss (by rw [ht]; decide)]; exact hJ1, by have := hg2.size; omega, d1, d2, hSk.below hb2 h3⟩
            case measure => simp [intOf]; omega
          refine AllReadyIn.cons rfl (fun K hK => ?_) AllReadyIn.nil
          go_simp
          refine hK _ _ ?_
          refine wpAnyIn_ready (rs := [3]) (by kernel_rfl) (by simp) ?_
          refine AllReadyIn.cons rfl (fun K hK => ?_) AllReadyIn.nil
          go_simp
          refine hK _ _ ?_
          refine wpAnyIn_ready (rs := [5]) (by kernel_rfl) (by simp) ?_
          refine AllReadyIn.cons rfl (fun K hK => ?_) AllReadyIn.nil
          go_simp
          refine ⟨trivial, ?_⟩
          refine (q_has_in m k false ht (by omega) _ _).mono ?_
          rintro e w1 ⟨rfl, hg⟩
          have d2 : w1.cell? ⟨B2, 0, none⟩ = some (.bool true) := (World.cell?_of_block (a := ⟨B2, 0, none⟩) (hg.block B2 (by simp; omega) (by simp))).trans (by simpa using c2)
          have d1 : w1.cell? ⟨B1, 0, none⟩ = some (.pointer (some ⟨b, 0, none⟩)) := (World.cell?_of_block (a := ⟨B1, 0, none⟩) (hg.block B1 (by simp; omega) (by simp))).trans (by simpa using c1)
          have hg2 : wr.grownBy w1 none := ⟨hg.os, hg.tape, hg.output, hg.size, hg.block⟩
          have hb2 : Below n₀ wr w1 := ⟨hg2.os, hg2.tape, hg2.output, hg2.size, fun i hi => hg2.block i (by omega) (by simp)⟩
          have hJ1 : J (sel m true k) w1 := hJ _ _ _ none hJk hg2 (fun r e => by cases e)
          refine hK _ _ ?_
          refine wpAnyIn_ready (rs := [7]) (by kernel_rfl) (by simp) ?_
          refine AllReadyIn.cons rfl (fun K hK => ?_) AllReadyIn.nil
          go_simp
          refine hK _ _ ?_
          refine wpAnyIn_ready (rs := [8]) (by kernel_rfl) (by simp) ?_
          refine AllReadyIn.cons rfl (fun K hK => ?_) AllReadyIn.nil
          go_simp
          refine hK _ _ ?_
          refine wpAnyIn_ready (rs := [9, 10]) (by kernel_rfl) (by simp) ?_
          refine AllReadyIn.cons rfl (fun K hK => ?_) ?_
          · go_simp
            refine hK _ _ ?_
            refine wpAnyIn_ready (rs := [10]) (by kernel_rfl) (by simp) ?_
            refine AllReadyIn.cons rfl (fun K hK => ?_) AllReadyIn.nil
            go_simp
            refine hK _ _ ?_
            refine wpAnyIn_ready (rs := [11]) (by kernel_rfl) (by simp) ?_
            refine AllReadyIn.cons rfl (fun K hK => ?_) AllReadyIn.nil
            go_simp
            refine ⟨fun _ _ => trivial, hK _ _ ?_⟩
            refine wpAnyIn_ready (rs := [12]) (by kernel_rfl) (by simp) ?_
            refine AllReadyIn.cons rfl (fun K hK => ?_) AllReadyIn.nil
            go_simp
            refine hK _ _ ?_
            refine wpAnyIn_ready (rs := [13]) (by kernel_rfl) (by simp) ?_
            refine AllReadyIn.cons rfl (fun K hK => ?_) AllReadyIn.nil
            go_simp
            refine hK _ _ ?_
            refine wpAnyIn_done (by kernel_rfl) ?_ _
            gi_wp2
            go_roundw
            case rel => exact ⟨k + 1, by omega, by go_num, by rw [sel_miss (by rw [ht]; decide)]; exact hJ1, by have := hg2.size; omega, d1, d2, hSk.below hb2 h3⟩
            case measure => simp [intOf]; omega
          refine AllReadyIn.cons rfl (fun K hK => ?_) AllReadyIn.nil
          go_simp
          refine hK _ _ ?_
          refine wpAnyIn_ready (rs := [9]) (by kernel_rfl) (by simp) ?_
          refine AllReadyIn.cons rfl (fun K hK => ?_) AllReadyIn.nil
          go_simp
          refine hK _ _ ?_
          refine wpAnyIn_ready (rs := [11]) (by kernel_rfl) (by simp) ?_
          refine AllReadyIn.cons rfl (fun K hK => ?_) AllReadyIn.nil
          go_simp
          refine ⟨fun _ _ => trivial, hK _ _ ?_⟩
          refine wpAnyIn_ready (rs := [12]) (by kernel_rfl) (by simp) ?_
          refine AllReadyIn.cons rfl (fun K hK => ?_) AllReadyIn.nil
          go_simp
          refine hK _ _ ?_
          refine wpAnyIn_ready (rs := [13]) (by kernel_rfl) (by simp) ?_
          refine AllReadyIn.cons rfl (fun K hK => ?_) AllReadyIn.nil
          go_simp
          refine hK _ _ ?_
          refine wpAnyIn_done (by kernel_rfl) ?_ _
          gi_wp2
          go_roundw
          case rel => exact ⟨k + 1, by omega, by go_num, by rw [sel_miss (by rw [ht]; decide)]; exact hJ1, by have := hg2.size; omega, d1, d2, hSk.below hb2 h3⟩
          case measure => simp [intOf]; omega
        refine AllReadyIn.cons rfl (fun K hK => ?_) AllReadyIn.nil
        go_simp
        refine hK _ _ ?_
        refine wpAnyIn_ready (rs := [0]) (by kernel_rfl) (by simp) ?_
        refine AllReadyIn.cons rfl (fun K hK => ?_) AllReadyIn.nil
        go_simp
        refine hK _ _ ?_
        refine wpAnyIn_ready (rs := [1]) (by kernel_rfl) (by simp) ?_
        refine AllReadyIn.cons rfl (fun K hK => ?_) AllReadyIn.nil
        go_simp
        refine hK _ _ ?_
        refine wpAnyIn_ready (rs := [2]) (by kernel_rfl) (by simp) ?_
        refine AllReadyIn.cons rfl (fun K hK => ?_) AllReadyIn.nil
        go_simp
        refine hK _ _ ?_
        refine wpAnyIn_ready (rs := [3]) (by kernel_rfl) (by simp) ?_
        refine AllReadyIn.cons rfl (fun K hK => ?_) AllReadyIn.nil
        go_simp
        refine hK _ _ ?_
        refine wpAnyIn_ready (rs := [5]) (by kernel_rfl) (by simp) ?_
        refine AllReadyIn.cons rfl (fun K hK => ?_) AllReadyIn.nil
        go_simp
        refine ⟨trivial, ?_⟩
        refine (q_has_in m k false ht (by omega) _ _).mono ?_
        rintro e w1 ⟨rfl, hg⟩
        have d2 : w1.cell? ⟨B2, 0, none⟩ = some (.bool true) := (World.cell?_of_block (a := ⟨B2, 0, none⟩) (hg.block B2 (by simp; omega) (by simp))).trans (by simpa using c2)
        have d1 : w1.cell? ⟨B1, 0, none⟩ = some (.pointer (some ⟨b, 0, none⟩)) := (World.cell?_of_block (a := ⟨B1, 0, none⟩) (hg.block B1 (by simp; omega) (by simp))).trans (by simpa using c1)
        have hg2 : wr.grownBy w1 none := ⟨hg.os, hg.tape, hg.output, hg.size, hg.block⟩
        have hb2 : Below n₀ wr w1 := ⟨hg2.os, hg2.tape, hg2.output, hg2.size, fun i hi => hg2.block i (by omega) (by simp)⟩
        have hJ1 : J (sel m true k) w1 := hJ _ _ _ none hJk hg2 (fun r e => by cases e)
        refine hK _ _ ?_
        refine wpAnyIn_ready (rs := [7]) (by kernel_rfl) (by simp) ?_
        refine AllReadyIn.cons rfl (fun K hK => ?_) AllReadyIn.nil
        go_simp
        refine hK _ _ ?_
        refine wpAnyIn_ready (rs := [8]) (by kernel_rfl) (by simp) ?_
        refine AllReadyIn.cons rfl (fun K hK => ?_) AllReadyIn.nil
        go_simp
        refine hK _ _ ?_
        refine wpAnyIn_ready (rs := [9, 10]) (by kernel_rfl) (by simp) ?_
        refine AllReadyIn.cons rfl (fun K hK => ?_) ?_
        · go_simp
          refine hK _ _ ?_
          refine wpAnyIn_ready (rs := [10]) (by kernel_rfl) (by simp) ?_
          refine AllReadyIn.cons rfl (fun K hK => ?_) AllReadyIn.nil
          go_simp
          refine hK _ _ ?_
          refine wpAnyIn_ready (rs := [11]) (by kernel_rfl) (by simp) ?_
          refine AllReadyIn.cons rfl (fun K hK => ?_) AllReadyIn.nil
          go_simp
          refine ⟨fun _ _ => trivial, hK _ _ ?_⟩
          refine wpAnyIn_ready (rs := [12]) (by kernel_rfl) (by simp) ?_
          refine AllReadyIn.cons rfl (fun K hK => ?_) AllReadyIn.nil
          go_simp
          refine hK _ _ ?_
          refine wpAnyIn_ready (rs := [13]) (by kernel_rfl) (by simp) ?_
          refine AllReadyIn.cons rfl (fun K hK => ?_) AllReadyIn.nil
          go_simp
          refine hK _ _ ?_
          refine wpAnyIn_done (by kernel_rfl) ?_ _
          gi_wp2
          go_roundw
          case rel => exact ⟨k + 1, by omega, by go_num, by rw [sel_miss (by rw [ht]; decide)]; exact hJ1, by have := hg2.size; omega, d1, d2, hSk.below hb2 h3⟩
          case measure => simp [intOf]; omega
        refine AllReadyIn.cons rfl (fun K hK => ?_) AllReadyIn.nil
        go_simp
        refine hK _ _ ?_
        refine wpAnyIn_ready (rs := [9]) (by kernel_rfl) (by simp) ?_
        refine AllReadyIn.cons rfl (fun K hK => ?_) AllReadyIn.nil
        go_simp
        refine hK _ _ ?_
        refine wpAnyIn_ready (rs := [11]) (by kernel_rfl) (by simp) ?_
        refine AllReadyIn.cons rfl (fun K hK => ?_) AllReadyIn.nil
        go_simp
        refine ⟨fun _ _ => trivial, hK _ _ ?_⟩
        refine wpAnyIn_ready (rs := [12]) (by kernel_rfl) (by simp) ?_
        refine AllReadyIn.cons rfl (fun K hK => ?_) AllReadyIn.nil
        go_simp
        refine hK _ _ ?_
        refine wpAnyIn_ready (rs := [13]) (by kernel_rfl) (by simp) ?_
        refine AllReadyIn.cons rfl (fun K hK => ?_) AllReadyIn.nil
        go_simp
        refine hK _ _ ?_
        refine wpAnyIn_done (by kernel_rfl) ?_ _
        gi_wp2
        go_roundw
        case rel => exact ⟨k + 1, by omega, by go_num, by rw [sel_miss (by rw [ht]; decide)]; exact hJ1, by have := hg2.size; omega, d1, d2, hSk.below hb2 h3⟩
        case measure => simp [intOf]; omega
      · gi_wp2
        refine wpIn_region_any (by kernel_rfl) ?_
        show wpAnyIn _ _ _ _ _ _ 14 _ _ _
        refine wpAnyIn_take (i := 4) (v := ?_) rfl rfl (by kernel_rfl) (by kernel_rfl) (by kernel_rfl) (fun _ _ _ h => h) ⟨Or.inl ⟨by rfl, fun w => by go_simp; with_reducible rfl⟩, fun _ => rfl⟩ ?_
        refine wpAnyIn_ready (rs := [0, 6]) (by kernel_rfl) (by simp) ?_
        refine AllReadyIn.cons rfl (fun K hK => ?_) ?_
        · go_simp
          refine hK _ _ ?_
          refine wpAnyIn_take (i := 1) (v := ?_) rfl rfl (by kernel_rfl) (by kernel_rfl) (by kernel_rfl) (fun _ _ _ h => h) ⟨Or.inl ⟨by rfl, fun w => by go_simp; with_reducible rfl⟩, fun _ => rfl⟩ ?_
          refine wpAnyIn_take (i := 2) (v := ?_) rfl rfl (by kernel_rfl) (by kernel_rfl) (by kernel_rfl) (fun _ _ _ h => h) ⟨Or.inl ⟨by rfl, fun w => by go_simp; with_reducible rfl⟩, fun _ => rfl⟩ ?_
          refine wpAnyIn_ready (rs := [3, 6]) (by kernel_rfl) (by simp) ?_
          refine AllReadyIn.cons rfl (fun K hK => ?_) ?_
          · go_simp
            refine hK _ _ ?_
            refine wpAnyIn_ready (rs := [5, 6]) (by kernel_rfl) (by simp) ?_
            refine AllReadyIn.cons rfl (fun K hK => ?_) ?_
            · go_simp
              refine ⟨trivial, ?_⟩
              refine (q_has_in m k true ht (by omega) _ _).mono ?_
              rintro e w1 ⟨rfl, hg⟩
              have d2 : w1.cell? ⟨B2, 0, none⟩ = some (.bool false) := (World.cell?_of_block (a := ⟨B2, 0, none⟩) (hg.block B2 (by simp; omega) (by simp))).trans (by simpa using c2)
              have d1 : w1.cell? ⟨B1, 0, none⟩ = some (.pointer (some ⟨b, 0, none⟩)) := (World.cell?_of_block (a := ⟨B1, 0, none⟩) (hg.block B1 (by simp; omega) (by simp))).trans (by simpa using c1)
              have hg2 : wr.grownBy w1 none := ⟨hg.os, hg.tape, hg.output, hg.size, hg.block⟩
              have hb2 : Below n₀ wr w1 := ⟨hg2.os, hg2.tape, hg2.output, hg2.size, fun i hi => hg2.block i (by omega) (by simp)⟩
              have hJ1 : J (sel m false k) w1 := hJ _ _ _ none hJk hg2 (fun r e => by cases e)
              refine hK _ _ ?_
              refine wpAnyIn_ready (rs := [6]) (by kernel_rfl) (by simp) ?_
              refine AllReadyIn.cons rfl (fun K hK => ?_) AllReadyIn.nil
              go_simp
              refine hK _ _ ?_
              refine wpAnyIn_ready (rs := [7]) (by kernel_rfl) (by simp) ?_
              refine AllReadyIn.cons rfl (fun K hK => ?_) AllReadyIn.nil
              go_simp
              refine hK _ _ ?_
              refine wpAnyIn_ready (rs := [8]) (by kernel_rfl) (by simp) ?_
              refine AllReadyIn.cons rfl (fun K hK => ?_) AllReadyIn.nil
              go_simp
              refine hK _ _ ?_
              refine wpAnyIn_ready (rs := [9, 10]) (by kernel_rfl) (by simp) ?_
              refine AllReadyIn.cons rfl (fun K hK => ?_) ?_
              · go_simp
                refine hK _ _ ?_
                refine wpAnyIn_ready (rs := [10]) (by kernel_rfl) (by simp) ?_
                refine AllReadyIn.cons rfl (fun K hK => ?_) AllReadyIn.nil
                go_simp
                refine hK _ _ ?_
                refine wpAnyIn_ready (rs := [11]) (by kernel_rfl) (by simp) ?_
                refine AllReadyIn.cons rfl (fun K hK => ?_) AllReadyIn.nil
                go_simp
                refine ⟨fun _ _ => trivial, hK _ _ ?_⟩
                refine wpAnyIn_ready (rs := [12]) (by kernel_rfl) (by simp) ?_
                refine AllReadyIn.cons rfl (fun K hK => ?_) AllReadyIn.nil
                go_simp
                refine hK _ _ ?_
                refine wpAnyIn_ready (rs := [13]) (by kernel_rfl) (by simp) ?_
                refine AllReadyIn.cons rfl (fun K hK => ?_) AllReadyIn.nil
                go_simp
                refine hK _ _ ?_
                refine wpAnyIn_done (by kernel_rfl) ?_ _
                gi_wp2
                go_roundw
                case rel => exact ⟨k + 1, by omega, by go_num, by rw [sel_miss (by rw [ht]; decide)]; exact hJ1, by have := hg2.size; omega, d1, d2, hSk.below hb2 h3⟩
                case measure => simp [intOf]; omega
              refine AllReadyIn.cons rfl (fun K hK => ?_) AllReadyIn.nil
              go_simp
              refine hK _ _ ?_
              refine wpAnyIn_ready (rs := [9]) (by kernel_rfl) (by simp) ?_
              refine AllReadyIn.cons rfl (fun K hK => ?_) AllReadyIn.nil
              go_simp
              refine hK _ _ ?_
              refine wpAnyIn_ready (rs := [11]) (by kernel_rfl) (by simp) ?_
              refine AllReadyIn.cons rfl (fun K hK => ?_) AllReadyIn.nil
              go_simp
              refine ⟨fun _ _ => trivial, hK _ _ ?_⟩
              refine wpAnyIn_ready (rs := [12]) (by kernel_rfl) (by simp) ?_
              refine AllReadyIn.cons rfl (fun K hK => ?_) AllReadyIn.nil
              go_simp
              refine hK _ _ ?_
              refine wpAnyIn_ready (rs := [13]) (by kernel_rfl) (by simp) ?_
              refine AllReadyIn.cons rfl (fun K hK => ?_) AllReadyIn.nil
              go_simp
              refine hK _ _ ?_
              refine wpAnyIn_done (by kernel_rfl) ?_ _
              gi_wp2
              go_roundw
              case rel => exact ⟨k + 1, by omega, by go_num, by rw [sel_miss (by rw [ht]; decide)]; exact hJ1, by have := hg2.size; omega, d1, d2, hSk.below hb2 h3⟩
              case measure => simp [intOf]; omega
            refine AllReadyIn.cons rfl (fun K hK => ?_) AllReadyIn.nil
            go_simp
            refine hK _ _ ?_
            refine wpAnyIn_ready (rs := [5]) (by kernel_rfl) (by simp) ?_
            refine AllReadyIn.cons rfl (fun K hK => ?_) AllReadyIn.nil
            go_simp
            refine ⟨trivial, ?_⟩
            refine (q_has_in m k true ht (by omega) _ _).mono ?_
            rintro e w1 ⟨rfl, hg⟩
            have d2 : w1.cell? ⟨B2, 0, none⟩ = some (.bool false) := (World.cell?_of_block (a := ⟨B2, 0, none⟩) (hg.block B2 (by simp; omega) (by simp))).trans (by simpa using c2)
            have d1 : w1.cell? ⟨B1, 0, none⟩ = some (.pointer (some ⟨b, 0, none⟩)) := (World.cell?_of_block (a := ⟨B1, 0, none⟩) (hg.block B1 (by simp; omega) (by simp))).trans (by simpa using c1)
            have hg2 : wr.grownBy w1 none := ⟨hg.os, hg.tape, hg.output, hg.size, hg.block⟩
            have hb2 : Below n₀ wr w1 := ⟨hg2.os, hg2.tape, hg2.output, hg2.size, fun i hi => hg2.block i (by omega) (by simp)⟩
            have hJ1 : J (sel m false k) w1 := hJ _ _ _ none hJk hg2 (fun r e => by cases e)
            refine hK _ _ ?_
            refine wpAnyIn_ready (rs := [7]) (by kernel_rfl) (by simp) ?_
            refine AllReadyIn.cons rfl (fun K hK => ?_) AllReadyIn.nil
            go_simp
            refine hK _ _ ?_
            refine wpAnyIn_ready (rs := [8]) (by kernel_rfl) (by simp) ?_
            refine AllReadyIn.cons rfl (fun K hK => ?_) AllReadyIn.nil
            go_simp
            refine hK _ _ ?_
            refine wpAnyIn_ready (rs := [9, 10]) (by kernel_rfl) (by simp) ?_
            refine AllReadyIn.cons rfl (fun K hK => ?_) ?_
            · go_simp
              refine hK _ _ ?_
              refine wpAnyIn_ready (rs := [10]) (by kernel_rfl) (by simp) ?_
              refine AllReadyIn.cons rfl (fun K hK => ?_) AllReadyIn.nil
              go_simp
              refine hK _ _ ?_
              refine wpAnyIn_ready (rs := [11]) (by kernel_rfl) (by simp) ?_
              refine AllReadyIn.cons rfl (fun K hK => ?_) AllReadyIn.nil
              go_simp
              refine ⟨fun _ _ => trivial, hK _ _ ?_⟩
              refine wpAnyIn_ready (rs := [12]) (by kernel_rfl) (by simp) ?_
              refine AllReadyIn.cons rfl (fun K hK => ?_) AllReadyIn.nil
              go_simp
              refine hK _ _ ?_
              refine wpAnyIn_ready (rs := [13]) (by kernel_rfl) (by simp) ?_
              refine AllReadyIn.cons rfl (fun K hK => ?_) AllReadyIn.nil
              go_simp
              refine hK _ _ ?_
              refine wpAnyIn_done (by kernel_rfl) ?_ _
              gi_wp2
              go_roundw
              case rel => exact ⟨k + 1, by omega, by go_num, by rw [sel_miss (by rw [ht]; decide)]; exact hJ1, by have := hg2.size; omega, d1, d2, hSk.below hb2 h3⟩
              case measure => simp [intOf]; omega
            refine AllReadyIn.cons rfl (fun K hK => ?_) AllReadyIn.nil
            go_simp
            refine hK _ _ ?_
            refine wpAnyIn_ready (rs := [9]) (by kernel_rfl) (by simp) ?_
            refine AllReadyIn.cons rfl (fun K hK => ?_) AllReadyIn.nil
            go_simp
            refine hK _ _ ?_
            refine wpAnyIn_ready (rs := [11]) (by kernel_rfl) (by simp) ?_
            refine AllReadyIn.cons rfl (fun K hK => ?_) AllReadyIn.nil
            go_simp
            refine ⟨fun _ _ => trivial, hK _ _ ?_⟩
            refine wpAnyIn_ready (rs := [12]) (by kernel_rfl) (by simp) ?_
            refine AllReadyIn.cons rfl (fun K hK => ?_) AllReadyIn.nil
            go_simp
            refine hK _ _ ?_
            refine wpAnyIn_ready (rs := [13]) (by kernel_rfl) (by simp) ?_
            refine AllReadyIn.cons rfl (fun K hK => ?_) AllReadyIn.nil
            go_simp
            refine hK _ _ ?_
            refine wpAnyIn_done (by kernel_rfl) ?_ _
            gi_wp2
            go_roundw
            case rel => exact ⟨k + 1, by omega, by go_num, by rw [sel_miss (by rw [ht]; decide)]; exact hJ1, by have := hg2.size; omega, d1, d2, hSk.below hb2 h3⟩
            case measure => simp [intOf]; omega
          refine AllReadyIn.cons rfl (fun K hK => ?_) AllReadyIn.nil
          go_simp
          refine hK _ _ ?_
          refine wpAnyIn_ready (rs := [3]) (by kernel_rfl) (by simp) ?_
          refine AllReadyIn.cons rfl (fun K hK => ?_) AllReadyIn.nil
          go_simp
          refine hK _ _ ?_
          refine wpAnyIn_ready (rs := [5]) (by kernel_rfl) (by simp) ?_
          refine AllReadyIn.cons rfl (fun K hK => ?_) AllReadyIn.nil
          go_simp
          refine ⟨trivial, ?_⟩
          refine (q_has_in m k true ht (by omega) _ _).mono ?_
          rintro e w1 ⟨rfl, hg⟩
          have d2 : w1.cell? ⟨B2, 0, none⟩ = some (.bool false) := (World.cell?_of_block (a := ⟨B2, 0, none⟩) (hg.block B2 (by simp; omega) (by simp))).trans (by simpa using c2)
          have d1 : w1.cell? ⟨B1, 0, none⟩ = some (.pointer (some ⟨b, 0, none⟩)) := (World.cell?_of_block (a := ⟨B1, 0, none⟩) (hg.block B1 (by simp; omega) (by simp))).trans (by simpa using c1)
          have hg2 : wr.grownBy w1 none := ⟨hg.os, hg.tape, hg.output, hg.size, hg.block⟩
          have hb2 : Below n₀ wr w1 := ⟨hg2.os, hg2.tape, hg2.output, hg2.size, fun i hi => hg2.block i (by omega) (by simp)⟩
          have hJ1 : J (sel m false k) w1 := hJ _ _ _ none hJk hg2 (fun r e => by cases e)
          refine hK _ _ ?_
          refine wpAnyIn_ready (rs := [7]) (by kernel_rfl) (by simp) ?_
          refine AllReadyIn.cons rfl (fun K hK => ?_) AllReadyIn.nil
          go_simp
          refine hK _ _ ?_
          refine wpAnyIn_ready (rs := [8]) (by kernel_rfl) (by simp) ?_
          refine AllReadyIn.cons rfl (fun K hK => ?_) AllReadyIn.nil
          go_simp
          refine hK _ _ ?_
          refine wpAnyIn_ready (rs := [9, 10]) (by kernel_rfl) (by simp) ?_
          refine AllReadyIn.cons rfl (fun K hK => ?_) ?_
          · go_simp
            refine hK _ _ ?_
            refine wpAnyIn_ready (rs := [10]) (by kernel_rfl) (by simp) ?_
            refine AllReadyIn.cons rfl (fun K hK => ?_) AllReadyIn.nil
            go_simp
            refine hK _ _ ?_
            refine wpAnyIn_ready (rs := [11]) (by kernel_rfl) (by simp) ?_
            refine AllReadyIn.cons rfl (fun K hK => ?_) AllReadyIn.nil
            go_simp
            refine ⟨fun _ _ => trivial, hK _ _ ?_⟩
            refine wpAnyIn_ready (rs := [12]) (by kernel_rfl) (by simp) ?_
            refine AllReadyIn.cons rfl (fun K hK => ?_) AllReadyIn.nil
            go_simp
            refine hK _ _ ?_
            refine wpAnyIn_ready (rs := [13]) (by kernel_rfl) (by simp) ?_
            refine AllReadyIn.cons rfl (fun K hK => ?_) AllReadyIn.nil
            go_simp
            refine hK _ _ ?_
            refine wpAnyIn_done (by kernel_rfl) ?_ _
            gi_wp2
            go_roundw
            case rel => exact ⟨k + 1, by omega, by go_num, by rw [sel_miss (by rw [ht]; decide)]; exact hJ1, by have := hg2.size; omega, d1, d2, hSk.below hb2 h3⟩
            case measure => simp [intOf]; omega
          refine AllReadyIn.cons rfl (fun K hK => ?_) AllReadyIn.nil
          go_simp
          refine hK _ _ ?_
          refine wpAnyIn_ready (rs := [9]) (by kernel_rfl) (by simp) ?_
          refine AllReadyIn.cons rfl (fun K hK => ?_) AllReadyIn.nil
          go_simp
          refine hK _ _ ?_
          refine wpAnyIn_ready (rs := [11]) (by kernel_rfl) (by simp) ?_
          refine AllReadyIn.cons rfl (fun K hK => ?_) AllReadyIn.nil
          go_simp
          refine ⟨fun _ _ => trivial, hK _ _ ?_⟩
          refine wpAnyIn_ready (rs := [12]) (by kernel_rfl) (by simp) ?_
          refine AllReadyIn.cons rfl (fun K hK => ?_) AllReadyIn.nil
          go_simp
          refine hK _ _ ?_
          refine wpAnyIn_ready (rs := [13]) (by kernel_rfl) (by simp) ?_
          refine AllReadyIn.cons rfl (fun K hK => ?_) AllReadyIn.nil
          go_simp
          refine hK _ _ ?_
          refine wpAnyIn_done (by kernel_rfl) ?_ _
          gi_wp2
          go_roundw
          case rel => exact ⟨k + 1, by omega, by go_num, by rw [sel_miss (by rw [ht]; decide)]; exact hJ1, by have := hg2.size; omega, d1, d2, hSk.below hb2 h3⟩
          case measure => simp [intOf]; omega
        refine AllReadyIn.cons rfl (fun K hK => ?_) AllReadyIn.nil
        go_simp
        refine hK _ _ ?_
        refine wpAnyIn_ready (rs := [0]) (by kernel_rfl) (by simp) ?_
        refine AllReadyIn.cons rfl (fun K hK => ?_) AllReadyIn.nil
        go_simp
        refine hK _ _ ?_
        refine wpAnyIn_ready (rs := [1]) (by kernel_rfl) (by simp) ?_
        refine AllReadyIn.cons rfl (fun K hK => ?_) AllReadyIn.nil
        go_simp
        refine hK _ _ ?_
        refine wpAnyIn_ready (rs := [2]) (by kernel_rfl) (by simp) ?_
        refine AllReadyIn.cons rfl (fun K hK => ?_) AllReadyIn.nil
        go_simp
        refine hK _ _ ?_
        refine wpAnyIn_ready (rs := [3]) (by kernel_rfl) (by simp) ?_
        refine AllReadyIn.cons rfl (fun K hK => ?_) AllReadyIn.nil
        go_simp
        refine hK _ _ ?_
        refine wpAnyIn_ready (rs := [5]) (by kernel_rfl) (by simp) ?_
        refine AllReadyIn.cons rfl (fun K hK => ?_) AllReadyIn.nil
        go_simp
        refine ⟨trivial, ?_⟩
        refine (q_has_in m k true ht (by omega) _ _).mono ?_
        rintro e w1 ⟨rfl, hg⟩
        have d2 : w1.cell? ⟨B2, 0, none⟩ = some (.bool false) := (World.cell?_of_block (a := ⟨B2, 0, none⟩) (hg.block B2 (by simp; omega) (by simp))).trans (by simpa using c2)
        have d1 : w1.cell? ⟨B1, 0, none⟩ = some (.pointer (some ⟨b, 0, none⟩)) := (World.cell?_of_block (a := ⟨B1, 0, none⟩) (hg.block B1 (by simp; omega) (by simp))).trans (by simpa using c1)
        have hg2 : wr.grownBy w1 none := ⟨hg.os, hg.tape, hg.output, hg.size, hg.block⟩
        have hb2 : Below n₀ wr w1 := ⟨hg2.os, hg2.tape, hg2.output, hg2.size, fun i hi => hg2.block i (by omega) (by simp)⟩
        have hJ1 : J (sel m false k) w1 := hJ _ _ _ none hJk hg2 (fun r e => by cases e)
        refine hK _ _ ?_
        refine wpAnyIn_ready (rs := [7]) (by kernel_rfl) (by simp) ?_
        refine AllReadyIn.cons rfl (fun K hK => ?_) AllReadyIn.nil
        go_simp
        refine hK _ _ ?_
        refine wpAnyIn_ready (rs := [8]) (by kernel_rfl) (by simp) ?_
        refine AllReadyIn.cons rfl (fun K hK => ?_) AllReadyIn.nil
        go_simp
        refine hK _ _ ?_
        refine wpAnyIn_ready (rs := [9, 10]) (by kernel_rfl) (by simp) ?_
        refine AllReadyIn.cons rfl (fun K hK => ?_) ?_
        · go_simp
          refine hK _ _ ?_
          refine wpAnyIn_ready (rs := [10]) (by kernel_rfl) (by simp) ?_
          refine AllReadyIn.cons rfl (fun K hK => ?_) AllReadyIn.nil
          go_simp
          refine hK _ _ ?_
          refine wpAnyIn_ready (rs := [11]) (by kernel_rfl) (by simp) ?_
          refine AllReadyIn.cons rfl (fun K hK => ?_) AllReadyIn.nil
          go_simp
          refine ⟨fun _ _ => trivial, hK _ _ ?_⟩
          refine wpAnyIn_ready (rs := [12]) (by kernel_rfl) (by simp) ?_
          refine AllReadyIn.cons rfl (fun K hK => ?_) AllReadyIn.nil
          go_simp
          refine hK _ _ ?_
          refine wpAnyIn_ready (rs := [13]) (by kernel_rfl) (by simp) ?_
          refine AllReadyIn.cons rfl (fun K hK => ?_) AllReadyIn.nil
          go_simp
          refine hK _ _ ?_
          refine wpAnyIn_done (by kernel_rfl) ?_ _
          gi_wp2
          go_roundw
          case rel => exact ⟨k + 1, by omega, by go_num, by rw [sel_miss (by rw [ht]; decide)]; exact hJ1, by have := hg2.size; omega, d1, d2, hSk.below hb2 h3⟩
          case measure => simp [intOf]; omega
        refine AllReadyIn.cons rfl (fun K hK => ?_) AllReadyIn.nil
        go_simp
        refine hK _ _ ?_
        refine wpAnyIn_ready (rs := [9]) (by kernel_rfl) (by simp) ?_
        refine AllReadyIn.cons rfl (fun K hK => ?_) AllReadyIn.nil
        go_simp
        refine hK _ _ ?_
        refine wpAnyIn_ready (rs := [11]) (by kernel_rfl) (by simp) ?_
        refine AllReadyIn.cons rfl (fun K hK => ?_) AllReadyIn.nil
        go_simp
        refine ⟨fun _ _ => trivial, hK _ _ ?_⟩
        refine wpAnyIn_ready (rs := [12]) (by kernel_rfl) (by simp) ?_
        refine AllReadyIn.cons rfl (fun K hK => ?_) AllReadyIn.nil
        go_simp
        refine hK _ _ ?_
        refine wpAnyIn_ready (rs := [13]) (by kernel_rfl) (by simp) ?_
        refine AllReadyIn.cons rfl (fun K hK => ?_) AllReadyIn.nil
        go_simp
        refine hK _ _ ?_
        refine wpAnyIn_done (by kernel_rfl) ?_ _
        gi_wp2
        go_roundw
        case rel => exact ⟨k + 1, by omega, by go_num, by rw [sel_miss (by rw [ht]; decide)]; exact hJ1, by have := hg2.size; omega, d1, d2, hSk.below hb2 h3⟩
        case measure => simp [intOf]; omega
      · gi_wp2
        refine wpIn_region_any (by kernel_rfl) ?_
        show wpAnyIn _ _ _ _ _ _ 14 _ _ _
        refine wpAnyIn_take (i := 4) (v := ?_) rfl rfl (by kernel_rfl) (by kernel_rfl) (by kernel_rfl) (fun _ _ _ h => h) ⟨Or.inl ⟨by rfl, fun w => by go_simp; with_reducible rfl⟩, fun _ => rfl⟩ ?_
        refine wpAnyIn_ready (rs := [0, 6]) (by kernel_rfl) (by simp) ?_
        refine AllReadyIn.cons rfl (fun K hK => ?_) ?_
        · go_simp
          refine hK _ _ ?_
          refine wpAnyIn_take (i := 1) (v := ?_) rfl rfl (by kernel_rfl) (by kernel_rfl) (by kernel_rfl) (fun _ _ _ h => h) ⟨Or.inl ⟨by rfl, fun w => by go_simp; with_reducible rfl⟩, fun _ => rfl⟩ ?_
          refine wpAnyIn_take (i := 2) (v := ?_) rfl rfl (by kernel_rfl) (by kernel_rfl) (by kernel_rfl) (fun _ _ _ h => h) ⟨Or.inl ⟨by rfl, fun w => by go_simp; with_reducible rfl⟩, fun _ => rfl⟩ ?_
          refine wpAnyIn_ready (rs := [3, 6]) (by kernel_rfl) (by simp) ?_
          refine AllReadyIn.cons rfl (fun K hK => ?_) ?_
          · go_simp
            refine hK _ _ ?_
            refine wpAnyIn_ready (rs := [5, 6]) (by kernel_rfl) (by simp) ?_
            refine AllReadyIn.cons rfl (fun K hK => ?_) ?_
            · go_simp
              refine ⟨trivial, ?_⟩
              refine (q_has_in m k true ht (by omega) _ _).mono ?_
              rintro e w1 ⟨rfl, hg⟩
              have d2 : w1.cell? ⟨B2, 0, none⟩ = some (.bool true) := (World.cell?_of_block (a := ⟨B2, 0, none⟩) (hg.block B2 (by simp; omega) (by simp))).trans (by simpa using c2)
              have d1 : w1.cell? ⟨B1, 0, none⟩ = some (.pointer (some ⟨b, 0, none⟩)) := (World.cell?_of_block (a := ⟨B1, 0, none⟩) (hg.block B1 (by simp; omega) (by simp))).trans (by simpa using c1)
              have hg2 : wr.grownBy w1 none := ⟨hg.os, hg.tape, hg.output, hg.size, hg.block⟩
              have hb2 : Below n₀ wr w1 := ⟨hg2.os, hg2.tape, hg2.output, hg2.size, fun i hi => hg2.block i (by omega) (by simp)⟩
              have hJ1 : J (sel m true k) w1 := hJ _ _ _ none hJk hg2 (fun r e => by cases e)
              obtain ⟨fn, tmps, assign, body, hy, hR⟩ := hY (sel m true k) k w1 hJ1 (sel_lt ht hlt)
              refine hK _ _ ?_
              refine wpAnyIn_ready (rs := [6]) (by kernel_rfl) (by simp) ?_
              refine AllReadyIn.cons rfl (fun K hK => ?_) AllReadyIn.nil
              go_simp
              refine hK _ _ ?_
              refine wpAnyIn_ready (rs := [7]) (by kernel_rfl) (by simp) ?_
              refine AllReadyIn.cons rfl (fun K hK => ?_) AllReadyIn.nil
              go_simp
              refine hK _ _ ?_
              refine wpAnyIn_ready (rs := [8]) (by kernel_rfl) (by simp) ?_
              refine AllReadyIn.cons rfl (fun K hK => ?_) AllReadyIn.nil
              go_simp
              refine hK _ _ ?_
              refine wpAnyIn_ready (rs := [9, 10]) (by kernel_rfl) (by simp) ?_
              refine AllReadyIn.cons rfl (fun K hK => ?_) ?_
              · go_simp
                refine hK _ _ ?_
                refine wpAnyIn_ready (rs := [10]) (by kernel_rfl) (by simp) ?_
                refine AllReadyIn.cons rfl (fun K hK => ?_) AllReadyIn.nil
                go_simp
                refine hK _ _ ?_
                refine wpAnyIn_ready (rs := [11]) (by kernel_rfl) (by simp) ?_
                refine AllReadyIn.cons rfl (fun K hK => ?_) AllReadyIn.nil
                go_simp
                refine hR.mono ?_
                rintro e W3 (⟨rfl, hJ3, hk3⟩ | ⟨rfl, hJx3⟩)
                · refine hK _ _ ?_
                  refine wpAnyIn_ready (rs := [12]) (by kernel_rfl) (by simp) ?_
                  refine AllReadyIn.cons rfl (fun K hK => ?_) AllReadyIn.nil
                  go_simp
                  refine hK _ _ ?_
                  refine wpAnyIn_ready (rs := [13]) (by kernel_rfl) (by simp) ?_
                  refine AllReadyIn.cons rfl (fun K hK => ?_) AllReadyIn.nil
                  go_simp
                  refine hK _ _ ?_
                  refine wpAnyIn_done (by kernel_rfl) ?_ _
                  obtain ⟨q1, q2, q3, q4⟩ := hKp _ _ hk3
                  gi_wp2
                  go_roundw
                  case rel => exact ⟨k + 1, by omega, by go_num, by rw [sel_hit ht]; exact hJ3, by have := hg2.size; have := q2; omega, q3.trans d1, q4.trans d2, hSk.below (hb2.trans q1) h3⟩
                  case measure => simp [intOf]; omega
                · refine hK _ _ ?_
                  refine wpAnyIn_ready (rs := [12]) (by kernel_rfl) (by simp) ?_
                  refine AllReadyIn.cons rfl (fun K hK => ?_) AllReadyIn.nil
                  go_simp
                  refine hK _ _ ?_
                  refine wpAnyIn_ready (rs := [13]) (by kernel_rfl) (by simp) ?_
                  refine AllReadyIn.cons rfl (fun K hK => ?_) AllReadyIn.nil
                  go_simp
                  refine hK _ _ ?_
                  refine wpAnyIn_done (by kernel_rfl) ?_ _
                  gi_wp2
                  refine bodyPost_ret (results_none rfl _ _ _) rfl ?_
                  exact ⟨⟨_, rfl⟩, .inr ⟨_, sel_pre ht hlt, hJx3⟩⟩
              refine AllReadyIn.cons rfl (fun K hK => ?_) AllReadyIn.nil
              go_simp
              refine hK _ _ ?_
              refine wpAnyIn_ready (rs := [9]) (by kernel_rfl) (by simp) ?_
              refine AllReadyIn.cons rfl (fun K hK => ?_) AllReadyIn.nil
              go_simp
              refine hK _ _ ?_
              refine wpAnyIn_ready (rs := [11]) (by kernel_rfl) (by simp) ?_
              refine AllReadyIn.cons rfl (fun K hK => ?_) AllReadyIn.nil
              go_simp
              refine hR.mono ?_
              rintro e W3 (⟨rfl, hJ3, hk3⟩ | ⟨rfl, hJx3⟩)
              · refine hK _ _ ?_
                refine wpAnyIn_ready (rs := [12]) (by kernel_rfl) (by simp) ?_
                refine AllReadyIn.cons rfl (fun K hK => ?_) AllReadyIn.nil
                go_simp
                refine hK _ _ ?_
                refine wpAnyIn_ready (rs := [13]) (by kernel_rfl) (by simp) ?_
                refine AllReadyIn.cons rfl (fun K hK => ?_) AllReadyIn.nil
                go_simp
                refine hK _ _ ?_
                refine wpAnyIn_done (by kernel_rfl) ?_ _
                obtain ⟨q1, q2, q3, q4⟩ := hKp _ _ hk3
                gi_wp2
                go_roundw
                case rel => exact ⟨k + 1, by omega, by go_num, by rw [sel_hit ht]; exact hJ3, by have := hg2.size; have := q2; omega, q3.trans d1, q4.trans d2, hSk.below (hb2.trans q1) h3⟩
                case measure => simp [intOf]; omega
              · refine hK _ _ ?_
                refine wpAnyIn_ready (rs := [12]) (by kernel_rfl) (by simp) ?_
                refine AllReadyIn.cons rfl (fun K hK => ?_) AllReadyIn.nil
                go_simp
                refine hK _ _ ?_
                refine wpAnyIn_ready (rs := [13]) (by kernel_rfl) (by simp) ?_
                refine AllReadyIn.cons rfl (fun K hK => ?_) AllReadyIn.nil
                go_simp
                refine hK _ _ ?_
                refine wpAnyIn_done (by kernel_rfl) ?_ _
                gi_wp2
                refine bodyPost_ret (results_none rfl _ _ _) rfl ?_
                exact ⟨⟨_, rfl⟩, .inr ⟨_, sel_pre ht hlt, hJx3⟩⟩
            refine AllReadyIn.cons rfl (fun K hK => ?_) AllReadyIn.nil
            go_simp
            refine hK _ _ ?_
            refine wpAnyIn_ready (rs := [5]) (by kernel_rfl) (by simp) ?_
            refine AllReadyIn.cons rfl (fun K hK => ?_) AllReadyIn.nil
            go_simp
            refine ⟨trivial, ?_⟩
            refine (q_has_in m k true ht (by omega) _ _).mono ?_
            rintro e w1 ⟨rfl, hg⟩
            have d2 : w1.cell? ⟨B2, 0, none⟩ = some (.bool true) := (World.cell?_of_block (a := ⟨B2, 0, none⟩) (hg.block B2 (by simp; omega) (by simp))).trans (by simpa using c2)
            have d1 : w1.cell? ⟨B1, 0, none⟩ = some (.pointer (some ⟨b, 0, none⟩)) := (World.cell?_of_block (a := ⟨B1, 0, none⟩) (hg.block B1 (by simp; omega) (by simp))).trans (by simpa using c1)
            have hg2 : wr.grownBy w1 none := ⟨hg.os, hg.tape, hg.output, hg.size, hg.block⟩
            have hb2 : Below n₀ wr w1 := ⟨hg2.os, hg2.tape, hg2.output, hg2.size, fun i hi => hg2.block i (by omega) (by simp)⟩
            have hJ1 : J (sel m true k) w1 := hJ _ _ _ none hJk hg2 (fun r e => by cases e)
            obtain ⟨fn, tmps, assign, body, hy, hR⟩ := hY (sel m true k) k w1 hJ1 (sel_lt ht hlt)
            refine hK _ _ ?_
            refine wpAnyIn_ready (rs := [7]) (by kernel_rfl) (by simp) ?_
            refine AllReadyIn.cons rfl (fun K hK => ?_) AllReadyIn.nil
            go_simp
            refine hK _ _ ?_
            refine wpAnyIn_ready (rs := [8]) (by kernel_rfl) (by simp) ?_
            refine AllReadyIn.cons rfl (fun K hK => ?_) AllReadyIn.nil
            go_simp
            refine hK _ _ ?_
            refine wpAnyIn_ready (rs := [9, 10]) (by kernel_rfl) (by simp) ?_
            refine AllReadyIn.cons rfl (fun K hK => ?_) ?_
            · go_simp
              refine hK _ _ ?_
              refine wpAnyIn_ready (rs := [10]) (by kernel_rfl) (by simp) ?_
              refine AllReadyIn.cons rfl (fun K hK => ?_) AllReadyIn.nil
              go_simp
              refine hK _ _ ?_
              refine wpAnyIn_ready (rs := [11]) (by kernel_rfl) (by simp) ?_
              refine AllReadyIn.cons rfl (fun K hK => ?_) AllReadyIn.nil
              go_simp
              refine hR.mono ?_
              rintro e W3 (⟨rfl, hJ3, hk3⟩ | ⟨rfl, hJx3⟩)
              · refine hK _ _ ?_
                refine wpAnyIn_ready (rs := [12]) (by kernel_rfl) (by simp) ?_
                refine AllReadyIn.cons rfl (fun K hK => ?_) AllReadyIn.nil
                go_simp
                refine hK _ _ ?_
                refine wpAnyIn_ready (rs := [13]) (by kernel_rfl) (by simp) ?_
                refine AllReadyIn.cons rfl (fun K hK => ?_) AllReadyIn.nil
                go_simp
                refine hK _ _ ?_
                refine wpAnyIn_done (by kernel_rfl) ?_ _
                obtain ⟨q1, q2, q3, q4⟩ := hKp _ _ hk3
                gi_wp2
                go_roundw
                case rel => exact ⟨k + 1, by omega, by go_num, by rw [sel_hit ht]; exact hJ3, by have := hg2.size; have := q2; omega, q3.trans d1, q4.trans d2, hSk.below (hb2.trans q1) h3⟩
                case measure => simp [intOf]; omega
              · refine hK _ _ ?_
                refine wpAnyIn_ready (rs := [12]) (by kernel_rfl) (by simp) ?_
                refine AllReadyIn.cons rfl (fun K hK => ?_) AllReadyIn.nil
                go_simp
                refine hK _ _ ?_
                refine wpAnyIn_ready (rs := [13]) (by kernel_rfl) (by simp) ?_
                refine AllReadyIn.cons rfl (fun K hK => ?_) AllReadyIn.nil
                go_simp
                refine hK _ _ ?_
                refine wpAnyIn_done (by kernel_rfl) ?_ _
                gi_wp2
                refine bodyPost_ret (results_none rfl _ _ _) rfl ?_
                exact ⟨⟨_, rfl⟩, .inr ⟨_, sel_pre ht hlt, hJx3⟩⟩
            refine AllReadyIn.cons rfl (fun K hK => ?_) AllReadyIn.nil
            go_simp
            refine hK _ _ ?_
            refine wpAnyIn_ready (rs := [9]) (by kernel_rfl) (by simp) ?_
            refine AllReadyIn.cons rfl (fun K hK => ?_) AllReadyIn.nil
            go_simp
            refine hK _ _ ?_
            refine wpAnyIn_ready (rs := [11]) (by kernel_rfl) (by simp) ?_
            refine AllReadyIn.cons rfl (fun K hK => ?_) AllReadyIn.nil
            go_simp
            refine hR.mono ?_
            rintro e W3 (⟨rfl, hJ3, hk3⟩ | ⟨rfl, hJx3⟩)
            · refine hK _ _ ?_
              refine wpAnyIn_ready (rs := [12]) (by kernel_rfl) (by simp) ?_
              refine AllReadyIn.cons rfl (fun K hK => ?_) AllReadyIn.nil
              go_simp
              refine hK _ _ ?_
              refine wpAnyIn_ready (rs := [13]) (by kernel_rfl) (by simp) ?_
              refine AllReadyIn.cons rfl (fun K hK => ?_) AllReadyIn.nil
              go_simp
              refine hK _ _ ?_
              refine wpAnyIn_done (by kernel_rfl) ?_ _
              obtain ⟨q1, q2, q3, q4⟩ := hKp _ _ hk3
              gi_wp2
              go_roundw
              case rel => exact ⟨k + 1, by omega, by go_num, by rw [sel_hit ht]; exact hJ3, by have := hg2.size; have := q2; omega, q3.trans d1, q4.trans d2, hSk.below (hb2.trans q1) h3⟩
              case measure => simp [intOf]; omega
            · refine hK _ _ ?_
              refine wpAnyIn_ready (rs := [12]) (by kernel_rfl) (by simp) ?_
              refine AllReadyIn.cons rfl (fun K hK => ?_) AllReadyIn.nil
              go_simp
              refine hK _ _ ?_
              refine wpAnyIn_ready (rs := [13]) (by kernel_rfl) (by simp) ?_
              refine AllReadyIn.cons rfl (fun K hK => ?_) AllReadyIn.nil
              go_simp
              refine hK _ _ ?_
              refine wpAnyIn_done (by kernel_rfl) ?_ _
              gi_wp2
              refine bodyPost_ret (results_none rfl _ _ _) rfl ?_
              exact ⟨⟨_, rfl⟩, .inr ⟨_, sel_pre ht hlt, hJx3⟩⟩
          refine AllReadyIn.cons rfl (fun K hK => ?_) AllReadyIn.nil
          go_simp
          refine hK _ _ ?_
          refine wpAnyIn_ready (rs := [3]) (by kernel_rfl) (by simp) ?_
          refine AllReadyIn.cons rfl (fun K hK => ?_) AllReadyIn.nil
          go_simp
          refine hK _ _ ?_
          refine wpAnyIn_ready (rs := [5]) (by kernel_rfl) (by simp) ?_
          refine AllReadyIn.cons rfl (fun K hK => ?_) AllReadyIn.nil
          go_simp
          refine ⟨trivial, ?_⟩
          refine (q_has_in m k true ht (by omega) _ _).mono ?_
          rintro e w1 ⟨rfl, hg⟩
          have d2 : w1.cell? ⟨B2, 0, none⟩ = some (.bool true) := (World.cell?_of_block (a := ⟨B2, 0, none⟩) (hg.block B2 (by simp; omega) (by simp))).trans (by simpa using c2)
          have d1 : w1.cell? ⟨B1, 0, none⟩ = some (.pointer (some ⟨b, 0, none⟩)) := (World.cell?_of_block (a := ⟨B1, 0, none⟩) (hg.block B1 (by simp; omega) (by simp))).trans (by simpa using c1)
          have hg2 : wr.grownBy w1 none := ⟨hg.os, hg.tape, hg.output, hg.size, hg.block⟩
          have hb2 : Below n₀ wr w1 := ⟨hg2.os, hg2.tape, hg2.output, hg2.size, fun i hi => hg2.block i (by omega) (by simp)⟩
          have hJ1 : J (sel m true k) w1 := hJ _ _ _ none hJk hg2 (fun r e => by cases e)
          obtain ⟨fn, tmps, assign, body, hy, hR⟩ := hY (sel m true k) k w1 hJ1 (sel_lt ht hlt)
          refine hK _ _ ?_
          refine wpAnyIn_ready (rs := [7]) (by kernel_rfl) (by simp) ?_
          refine AllReadyIn.cons rfl (fun K hK => ?_) AllReadyIn.nil
          go_simp
          refine hK _ _ ?_
          refine wpAnyIn_ready (rs := [8]) (by kernel_rfl) (by simp) ?_
          refine AllReadyIn.cons rfl (fun K hK => ?_) AllReadyIn.nil
          go_simp
          refine hK _ _ ?_
          refine wpAnyIn_ready (rs := [9, 10]) (by kernel_rfl) (by simp) ?_
          refine AllReadyIn.cons rfl (fun K hK => ?_) ?_
          · go_simp
            refine hK _ _ ?_
            refine wpAnyIn_ready (rs := [10]) (by kernel_rfl) (by simp) ?_
            refine AllReadyIn.cons rfl (fun K hK => ?_) AllReadyIn.nil
            go_simp
            refine hK _ _ ?_
            refine wpAnyIn_ready (rs := [11]) (by kernel_rfl) (by simp) ?_
            refine AllReadyIn.cons rfl (fun K hK => ?_) AllReadyIn.nil
            go_simp
            refine hR.mono ?_
            rintro e W3 (⟨rfl, hJ3, hk3⟩ | ⟨rfl, hJx3⟩)
            · refine hK _ _ ?_
              refine wpAnyIn_ready (rs := [12]) (by kernel_rfl) (by simp) ?_
              refine AllReadyIn.cons rfl (fun K hK => ?_) AllReadyIn.nil
              go_simp
              refine hK _ _ ?_
              refine wpAnyIn_ready (rs := [13]) (by kernel_rfl) (by simp) ?_
              refine AllReadyIn.cons rfl (fun K hK => ?_) AllReadyIn.nil
              go_simp
              refine hK _ _ ?_
              refine wpAnyIn_done (by kernel_rfl) ?_ _
              obtain ⟨q1, q2, q3, q4⟩ := hKp _ _ hk3
              gi_wp2
              go_roundw
              case rel => exact ⟨k + 1, by omega, by go_num, by rw [sel_hit ht]; exact hJ3, by have := hg2.size; have := q2; omega, q3.trans d1, q4.trans d2, hSk.below (hb2.trans q1) h3⟩
              case measure => simp [intOf]; omega
            · refine hK _ _ ?_
              refine wpAnyIn_ready (rs := [12]) (by kernel_rfl) (by simp) ?_
              refine AllReadyIn.cons rfl (fun K hK => ?_) AllReadyIn.nil
              go_simp
              refine hK _ _ ?_
              refine wpAnyIn_ready (rs := [13]) (by kernel_rfl) (by simp) ?_
              refine AllReadyIn.cons rfl (fun K hK => ?_) AllReadyIn.nil
              go_simp
              refine hK _ _ ?_
              refine wpAnyIn_done (by kernel_rfl) ?_ _
              gi_wp2
              refine bodyPost_ret (results_none rfl _ _ _) rfl ?_
              exact ⟨⟨_, rfl⟩, .inr ⟨_, sel_pre ht hlt, hJx3⟩⟩
          refine AllReadyIn.cons rfl (fun K hK => ?_) AllReadyIn.nil
          go_simp
          refine hK _ _ ?_
          refine wpAnyIn_ready (rs := [9]) (by kernel_rfl) (by simp) ?_
          refine AllReadyIn.cons rfl (fun K hK => ?_) AllReadyIn.nil
          go_simp
          refine hK _ _ ?_
          refine wpAnyIn_ready (rs := [11]) (by kernel_rfl) (by simp) ?_
          refine AllReadyIn.cons rfl (fun K hK => ?_) AllReadyIn.nil
          go_simp
          refine hR.mono ?_
          rintro e W3 (⟨rfl, hJ3, hk3⟩ | ⟨rfl, hJx3⟩)
          · refine hK _ _ ?_
            refine wpAnyIn_ready (rs := [12]) (by kernel_rfl) (by simp) ?_
            refine AllReadyIn.cons rfl (fun K hK => ?_) AllReadyIn.nil
            go_simp
            refine hK _ _ ?_
            refine wpAnyIn_ready (rs := [13]) (by kernel_rfl) (by simp) ?_
            refine AllReadyIn.cons rfl (fun K hK => ?_) AllReadyIn.nil
            go_simp
            refine hK _ _ ?_
            refine wpAnyIn_done (by kernel_rfl) ?_ _
            obtain ⟨q1, q2, q3, q4⟩ := hKp _ _ hk3
            gi_wp2
            go_roundw
            case rel => exact ⟨k + 1, by omega, by go_num, by rw [sel_hit ht]; exact hJ3, by have := hg2.size; have := q2; omega, q3.trans d1, q4.trans d2, hSk.below (hb2.trans q1) h3⟩
            case measure => simp [intOf]; omega
          · refine hK _ _ ?_
            refine wpAnyIn_ready (rs := [12]) (by kernel_rfl) (by simp) ?_
            refine AllReadyIn.cons rfl (fun K hK => ?_) AllReadyIn.nil
            go_simp
            refine hK _ _ ?_
            refine wpAnyIn_ready (rs := [13]) (by kernel_rfl) (by simp) ?_
            refine AllReadyIn.cons rfl (fun K hK => ?_) AllReadyIn.nil
            go_simp
            refine hK _ _ ?_
            refine wpAnyIn_done (by kernel_rfl) ?_ _
            gi_wp2
            refine bodyPost_ret (results_none rfl _ _ _) rfl ?_
            exact ⟨⟨_, rfl⟩, .inr ⟨_, sel_pre ht hlt, hJx3⟩⟩
        refine AllReadyIn.cons rfl (fun K hK => ?_) AllReadyIn.nil
        go_simp
        refine hK _ _ ?_
        refine wpAnyIn_ready (rs := [0]) (by kernel_rfl) (by simp) ?_
        refine AllReadyIn.cons rfl (fun K hK => ?_) AllReadyIn.nil
        go_simp
        refine hK _ _ ?_
        refine wpAnyIn_ready (rs := [1]) (by kernel_rfl) (by simp) ?_
        refine AllReadyIn.cons rfl (fun K hK => ?_) AllReadyIn.nil
        go_simp
        refine hK _ _ ?_
        refine wpAnyIn_ready (rs := [2]) (by kernel_rfl) (by simp) ?_
        refine AllReadyIn.cons rfl (fun K hK => ?_) AllReadyIn.nil
        go_simp
        refine hK _ _ ?_
        refine wpAnyIn_ready (rs := [3]) (by kernel_rfl) (by simp) ?_
        refine AllReadyIn.cons rfl (fun K hK => ?_) AllReadyIn.nil
        go_simp
        refine hK _ _ ?_
        refine wpAnyIn_ready (rs := [5]) (by kernel_rfl) (by simp) ?_
        refine AllReadyIn.cons rfl (fun K hK => ?_) AllReadyIn.nil
        go_simp
        refine ⟨trivial, ?_⟩
        refine (q_has_in m k true ht (by omega) _ _).mono ?_
        rintro e w1 ⟨rfl, hg⟩
        have d2 : w1.cell? ⟨B2, 0, none⟩ = some (.bool true) := (World.cell?_of_block (a := ⟨B2, 0, none⟩) (hg.block B2 (by simp; omega) (by simp))).trans (by simpa using c2)
        have d1 : w1.cell? ⟨B1, 0, none⟩ = some (.pointer (some ⟨b, 0, none⟩)) := (World.cell?_of_block (a := ⟨B1, 0, none⟩) (hg.block B1 (by simp; omega) (by simp))).trans (by simpa using c1)
        have hg2 : wr.grownBy w1 none := ⟨hg.os, hg.tape, hg.output, hg.size, hg.block⟩
        have hb2 : Below n₀ wr w1 := ⟨hg2.os, hg2.tape, hg2.output, hg2.size, fun i hi => hg2.block i (by omega) (by simp)⟩
        have hJ1 : J (sel m true k) w1 := hJ _ _ _ none hJk hg2 (fun r e => by cases e)
        obtain ⟨fn, tmps, assign, body, hy, hR⟩ := hY (sel m true k) k w1 hJ1 (sel_lt ht hlt)
        refine hK _ _ ?_
        refine wpAnyIn_ready (rs := [7]) (by kernel_rfl) (by simp) ?_
        refine AllReadyIn.cons rfl (fun K hK => ?_) AllReadyIn.nil
        go_simp
        refine hK _ _ ?_
        refine wpAnyIn_ready (rs := [8]) (by kernel_rfl) (by simp) ?_
        refine AllReadyIn.cons rfl (fun K hK => ?_) AllReadyIn.nil
        go_simp
        refine hK _ _ ?_
        refine wpAnyIn_ready (rs := [9, 10]) (by kernel_rfl) (by simp) ?_
        refine AllReadyIn.cons rfl (fun K hK => ?_) ?_
        · go_simp
          refine hK _ _ ?_
          refine wpAnyIn_ready (rs := [10]) (by kernel_rfl) (by simp) ?_
          refine AllReadyIn.cons rfl (fun K hK => ?_) AllReadyIn.nil
          go_simp
          refine hK _ _ ?_
          refine wpAnyIn_ready (rs := [11]) (by kernel_rfl) (by simp) ?_
          refine AllReadyIn.cons rfl (fun K hK => ?_) AllReadyIn.nil
          go_simp
          refine hR.mono ?_
          rintro e W3 (⟨rfl, hJ3, hk3⟩ | ⟨rfl, hJx3⟩)
          · refine hK _ _ ?_
            refine wpAnyIn_ready (rs := [12]) (by kernel_rfl) (by simp) ?_
            refine AllReadyIn.cons rfl (fun K hK => ?_) AllReadyIn.nil
            go_simp
            refine hK _ _ ?_
            refine wpAnyIn_ready (rs := [13]) (by kernel_rfl) (by simp) ?_
            refine AllReadyIn.cons rfl (fun K hK => ?_) AllReadyIn.nil
            go_simp
            refine hK _ _ ?_
            refine wpAnyIn_done (by kernel_rfl) ?_ _
            obtain ⟨q1, q2, q3, q4⟩ := hKp _ _ hk3
            gi_wp2
            go_roundw
            case rel => exact ⟨k + 1, by omega, by go_num, by rw [sel_hit ht]; exact hJ3, by have := hg2.size; have := q2; omega, q3.trans d1, q4.trans d2, hSk.below (hb2.trans q1) h3⟩
            case measure => simp [intOf]; omega
          · refine hK _ _ ?_
            refine wpAnyIn_ready (rs := [12]) (by kernel_rfl) (by simp) ?_
            refine AllReadyIn.cons rfl (fun K hK => ?_) AllReadyIn.nil
            go_simp
            refine hK _ _ ?_
            refine wpAnyIn_ready (rs := [13]) (by kernel_rfl) (by simp) ?_
            refine AllReadyIn.cons rfl (fun K hK => ?_) AllReadyIn.nil
            go_simp
            refine hK _ _ ?_
            refine wpAnyIn_done (by kernel_rfl) ?_ _
            gi_wp2
            refine bodyPost_ret (results_none rfl _ _ _) rfl ?_
            exact ⟨⟨_, rfl⟩, .inr ⟨_, sel_pre ht hlt, hJx3⟩⟩
        refine AllReadyIn.cons rfl (fun K hK => ?_) AllReadyIn.nil
        go_simp
        refine hK _ _ ?_
        refine wpAnyIn_ready (rs := [9]) (by kernel_rfl) (by simp) ?_
        refine AllReadyIn.cons rfl (fun K hK => ?_) AllReadyIn.nil
        go_simp
        refine hK _ _ ?_
        refine wpAnyIn_ready (rs := [11]) (by kernel_rfl) (by simp) ?_
        refine AllReadyIn.cons rfl (fun K hK => ?_) AllReadyIn.nil
        go_simp
        refine hR.mono ?_
        rintro e W3 (⟨rfl, hJ3, hk3⟩ | ⟨rfl, hJx3⟩)
        · refine hK _ _ ?_
          refine wpAnyIn_ready (rs := [12]) (by kernel_rfl) (by simp) ?_
          refine AllReadyIn.cons rfl (fun K hK => ?_) AllReadyIn.nil
          go_simp
          refine hK _ _ ?_
          refine wpAnyIn_ready (rs := [13]) (by kernel_rfl) (by simp) ?_
          refine AllReadyIn.cons rfl (fun K hK => ?_) AllReadyIn.nil
          go_simp
          refine hK _ _ ?_
          refine wpAnyIn_done (by kernel_rfl) ?_ _
          obtain ⟨q1, q2, q3, q4⟩ := hKp _ _ hk3
          gi_wp2
          go_roundw
          case rel => exact ⟨k + 1, by omega, by go_num, by rw [sel_hit ht]; exact hJ3, by have := hg2.size; have := q2; omega, q3.trans d1, q4.trans d2, hSk.below (hb2.trans q1) h3⟩
          case measure => simp [intOf]; omega
        · refine hK _ _ ?_
          refine wpAnyIn_ready (rs := [12]) (by kernel_rfl) (by simp) ?_
          refine AllReadyIn.cons rfl (fun K hK => ?_) AllReadyIn.nil
          go_simp
          refine hK _ _ ?_
          refine wpAnyIn_ready (rs := [13]) (by kernel_rfl) (by simp) ?_
          refine AllReadyIn.cons rfl (fun K hK => ?_) AllReadyIn.nil
          go_simp
          refine hK _ _ ?_
          refine wpAnyIn_done (by kernel_rfl) ?_ _
          gi_wp2
          refine bodyPost_ret (results_none rfl _ _ _) rfl ?_
          exact ⟨⟨_, rfl⟩, .inr ⟨_, sel_pre ht hlt, hJx3⟩⟩
    · have hkN : decide ((k : Int) < (N : Int)) = false := by simp; omega
      gi_wp2
      go_end0
      obtain rfl : k = N := by omega
      exact ⟨⟨_, rfl⟩, .inl ⟨_, rfl, hJk⟩⟩
set_option maxHeartbeats 1000000 in
theorem each_in (n : Nat) (p : Option Addr) (inn : Bool) (w : World) :
    CallsIn Fence.wide n Try.prog 118 #[.pointer p, .bool inn] w fun e w' => e = .returned (.func (.func 131) #[] #[.pointer (some ⟨w.heap.size, 0, none⟩), .pointer (some ⟨w.heap.size + 1, 0, none⟩)]) ∧ w' = (w.alloc (.cells #[.pointer p] 62)).alloc (.cells #[.bool inn] 4) := by
  refine callsIn_of_wp Try.func118 rfl trivial ?_ rfl
  simp only [Try.ntmps118, List.size_toArray, List.length_cons, List.length_nil, Nat.reduceAdd, Nat.reduceSub, Array.replicate_succ, Array.replicate_zero, List.push_toArray, List.append_toArray, List.nil_append, List.cons_append]
  gi_wp2
  go_ret
  exact ⟨rfl, rfl⟩
def KpS (n₀ B1 B2 : Nat) (A B : World) : Prop := Below n₀ A B ∧ A.heap.size ≤ B.heap.size ∧ B.cell? ⟨B1, 0, none⟩ = A.cell? ⟨B1, 0, none⟩ ∧ B.cell? ⟨B2, 0, none⟩ = A.cell? ⟨B2, 0, none⟩
theorem kpS_t {n₀ B1 B2 : Nat} {A B C : World} (h : KpS n₀ B1 B2 A B) (k : KpS n₀ B1 B2 B C) : KpS n₀ B1 B2 A C :=
  ⟨h.1.trans k.1, Nat.le_trans h.2.1 k.2.1, k.2.2.1.trans h.2.2.1, k.2.2.2.trans h.2.2.2⟩
theorem kpS_b {n₀ B1 B2 z : Nat} (h0 : n₀ ≤ z) (h1 : B1 < z) (h2 : B2 < z) (W : World) (l : Nat) (o o' : Obj) (hl : z ≤ l) (ho : W.heap[l]? = some o) (_ : o.isCells = false) (_ : o.isWalk = false) : KpS n₀ B1 B2 W (W.putObj l o') := by
  have hg := grownBy_putObj' W l o'
  have hlt : l < W.heap.size := (Array.getElem?_eq_some_iff.1 ho).1
  refine ⟨⟨hg.os, hg.tape, hg.output, hg.size, fun k hk => hg.block k (by omega) (by simp; omega)⟩, hg.size, ?_, ?_⟩
  · exact World.cell?_of_block (a := ⟨B1, 0, none⟩) (hg.block B1 (by omega) (by simp; omega))
  · exact World.cell?_of_block (a := ⟨B2, 0, none⟩) (hg.block B2 (by omega) (by simp; omega))
theorem each_stops (n : Nat) (hn : 1 ≤ n) (B1 B2 b n₀ : Nat) (c : GConfig) (m : Nat) (inn : Bool) (hok : okCfg c) (w : World) (h0 : n₀ ≤ w.heap.size) (h1 : B1 < w.heap.size) (h2 : B2 < w.heap.size) (h3 : b < n₀)
    (hc1 : w.cell? ⟨B1, 0, none⟩ = some (.pointer (some ⟨b, 0, none⟩))) (hc2 : w.cell? ⟨B2, 0, none⟩ = some (.bool inn)) (hS : SetC w b c m) :
    SeqStopsK Fence.wide n Try.prog 131 #[.pointer (some ⟨B1, 0, none⟩), .pointer (some ⟨B2, 0, none⟩)] (fun x : Nat => #[Value.int .i64 (x : Int)]) (KpS n₀ B1 B2) (fun ys => ys = sel m inn c.N.toNat) (fun pre => pre <+: sel m inn c.N.toNat) (sel m inn c.N.toNat).length w := fun l J Jx W hW hJ _ hY h00 =>
  each1_in n hn l B1 B2 b n₀ c m inn hok h3 J Jx _ hJ (KpS n₀ B1 B2) (fun _ _ h => h) hY W (Nat.le_trans h0 hW.size) (Nat.lt_of_lt_of_le h1 hW.size) (Nat.lt_of_lt_of_le h2 hW.size) ((hW.cell (p := ⟨B1, 0, none⟩) h1).trans hc1) ((hW.cell (p := ⟨B2, 0, none⟩) h2).trans hc2) (hS.below (hW.mono h0) h3) h00
theorem those_info : (Try.prog.info? 3).map (fun i => (i.zero, i.size, i.bytes)) = some (some (.int .i64 0), 1, 8) := by kernel_rfl
set_option maxRecDepth 100000 in
set_option maxHeartbeats 2000000 in
theorem those_in (b : Nat) (c : GConfig) (m : Nat) (inn : Bool) (hok : okCfg c) (w : World) (hb : b < w.heap.size) (hS : SetC w b c m) :
    CallsIn Fence.wide 9 Try.prog 84 #[.pointer (some ⟨b, 0, none⟩), .bool inn] w fun e W' => ∃ v, e = .returned v ∧ W'.ownsRow w.heap.size 3 1 v (sel m inn c.N.toNat).length ((sel m inn c.N.toNat).map fun (x : Nat) => Value.int .i64 (x : Int)) ∧ (v = .slice none 0 0 ↔ sel m inn c.N.toNat = []) ∧ Below w.heap.size w W' := by
  have hN : c.N.toNat ≤ 255 := by unfold okCfg at hok; omega
  have hle : (sel m inn c.N.toNat).length ≤ 255 := Nat.le_trans (sel_le m inn c.N.toNat) hN
  obtain ⟨i0, hi, hz0, hz1, hz2⟩ := info_parts those_info
  refine callsIn_of_wp_marks Try.func84 rfl trivial ?_ rfl
  simp only [Try.ntmps84, List.size_toArray, List.length_cons, List.length_nil, Nat.reduceAdd, Nat.reduceSub, Array.replicate_succ, Array.replicate_zero, List.push_toArray, List.append_toArray, List.nil_append, List.cons_append]
  gi_wp2_with (first | (refine ⟨trivial, ?_⟩; gi_at_call 118; refine (each_in _ _ _ _).mono ?_; rintro e w' ⟨rfl, rfl⟩) | (gi_at_call 118; refine (each_in _ _ _ _).mono ?_; rintro e w' ⟨rfl, rfl⟩))
  have bO := Boxed.new w 36 (.slice none 0 0)
  have bP := Boxed.new (w.alloc (.cells #[.slice none 0 0] 36)) 62 (.pointer (some ⟨b, 0, none⟩))
  have bN := Boxed.new ((w.alloc (.cells #[.slice none 0 0] 36)).alloc (.cells #[.pointer (some ⟨b, 0, none⟩)] 62)) 4 (.bool inn)
  simp only [World.size_alloc] at bP bN
  have hB0 : Below w.heap.size w (((w.alloc (.cells #[.slice none 0 0] 36)).alloc (.cells #[.pointer (some ⟨b, 0, none⟩)] 62)).alloc (.cells #[.bool inn] 4)) := (((Below.refl _ w).alloc (Nat.le_refl _) _).alloc (by simp) _).alloc (by simp; omega) _
  refine wpIn_rangeFunc_ownG rfl (by decide) (gf := 131) (lb := #[.pointer (some ⟨w.heap.size + 1, 0, none⟩), .pointer (some ⟨w.heap.size + 1 + 1, 0, none⟩)]) rfl trivial (enters_of Try.func131 (by kernel_rfl) rfl)
    (each_stops 8 (by decide) (w.heap.size + 1) (w.heap.size + 1 + 1) b w.heap.size c m inn hok _ (by simp; omega) (by simp) (by simp) hb (bP.alloc _).cell bN.cell (hS.below hB0 hb)) kpS_t (kpS_b (by simp; omega) (by simp) (by simp)) (Below.refl _ _) (fun _ => rfl)
    (fun pre W => (∃ v, Boxed W w.heap.size 36 v ∧ W.ownsRow w.heap.size 3 1 v pre.length (pre.map fun (x : Nat) => Value.int .i64 (x : Int)) ∧ (v = .slice none 0 0 ↔ pre = [])) ∧ ((Boxed W (w.heap.size + 1) 62 (.pointer (some ⟨b, 0, none⟩)) ∧ Boxed W (w.heap.size + 1 + 1) 4 (.bool inn)) ∧ Below w.heap.size w W))
    (fun _ _ _ => False)
    (OwnFrom.and (Own.from (holdsRow_own w.heap.size w.heap.size 36 3 1 (fun pre => pre.length) (fun pre => pre.map fun (x : Nat) => Value.int .i64 (x : Int)) (fun pre v => v = .slice none 0 0 ↔ pre = [])) _) (OwnFrom.and (OwnFrom.and (Own.from (boxed_own _ _ _) _) (Own.from (boxed_own _ _ _) _)) (ownFrom_below (Nat.le_refl _) (by simp; omega))))
    (fun _ _ _ _ _ hs _ _ => hs)
    ⟨⟨_, (bO.alloc _).alloc _, World.ownsRow_nil _ _ _ _, by simp⟩, ⟨bP.alloc _, bN⟩, hB0⟩
    (fun x => { tmps := #[.pointer (some ⟨b, 0, none⟩), .bool inn, undef, undef, .slice none 0 0, .pointer (some ⟨w.heap.size, 0, none⟩), .int .i64 (x : Int), .pointer (some ⟨b, 0, none⟩), .bool inn, .func (.func 131) #[] #[.pointer (some ⟨w.heap.size + 1, 0, none⟩), .pointer (some ⟨w.heap.size + 1 + 1, 0, none⟩)], .int .i64 (x : Int), undef, undef, undef, undef, undef], defers := [] }) ?assign ?body ?done ?stop
  case assign =>
    intro l x W K hK
    gi_wp2
    exact hK
  case body =>
    rintro l pre x W ⟨⟨v, hv, hrow, hnil⟩, ⟨hP1, hP2⟩, hB⟩ hlt
    have hc := hv.cell
    gi_wp2_with (gi_at_builtin; refine wpListIn_append_own _ rfl _ _ 36 rfl w.heap.size 3 i0 (.int .i64 0) 1 8 Try.underlying36 hi hz0 hz1 hz2 rfl (by decide) _ _ _ rfl (hrow.alloc _) ⟨W.heap.size, 0, none⟩ 1 1 [.int .i64 (x : Int)] rfl rfl (cell_one_new _ _ _) (by simp [Value.oneCell']) (by unfold maxLen; omega) (by omega) (by have := hB.size; simp; omega) ?_; intro v' w1 hown' hgrow _; obtain ⟨g', cap', rfl⟩ := ownsRow_succ hown'; obtain ⟨hv1, hv2, hr2, hk2, hb2⟩ := hv.appended (by decide) hrow hB.size (Nat.le_refl _) hown' hgrow; have hP1' := ((hP1.alloc _).kept hgrow (hP1.not_row (by decide) hrow)).other (B' := w.heap.size) (by omega) (.slice (some ⟨g', 0, none⟩) (pre.length + 1) cap'); have hP2' := ((hP2.alloc _).kept hgrow (hP2.not_row (by decide) hrow)).other (B' := w.heap.size) (by omega) (.slice (some ⟨g', 0, none⟩) (pre.length + 1) cap'); have hc1 := hv1.cell; have hf1 := hv1.frozen)
    exact ⟨hk2.from _, ⟨hb2, by have := hgrow.size; simp at this ⊢; omega, hP1'.cell.trans hP1.cell.symm, hP2'.cell.trans hP2.cell.symm⟩, ⟨_, hv2, by simpa using hr2, by simp⟩, ⟨hP1', hP2'⟩, hB.trans hb2⟩
  case done =>
    rintro D ys W hD rfl ⟨⟨v, hv, hrow, hnil⟩, _, hB⟩ hK
    have hc := hv.cell
    gi_wp2
    refine ⟨by simp, .inl ⟨_, _, rfl, run_takeDeferred hK, ?_⟩⟩
    exact ⟨_, results_tmp rfl _ _ _, v, rfl, ownsRow_putObj hrow _ hK rfl, hnil, hB.trans (belowK_b (w := w) (Nat.le_refl _) W D _ _ (by simp at hD; omega) hK rfl rfl)⟩
  case stop =>
    rintro D c pre W _ _ h _
    exact h.elim
theorem flat_ints (l : List Nat) : (l.map fun (x : Nat) => Value.int .i64 (x : Int)) = l.flatMap fun (y : Nat) => [Value.int .i64 (y : Int)] := by
  induction l with
  | nil => rfl
  | cons x l ih => rw [List.map_cons, List.flatMap_cons, ih]; rfl
/-- What List and Rest answer, of a set that is not nil. -/
theorem q_those (w0 : World) (L : List Res) (b : Nat) (c : GConfig) (m : Nat) (w : World) (hok : okCfg c) (inn : Bool) (hp0 : Hp w0 Non (Res.row b [.int .i64 c.N, .int .i64 c.K, .int .i64 c.Delta, .int .u64 ((wd m 0 : Nat) : Int), .int .u64 ((wd m 1 : Nat) : Int), .int .u64 ((wd m 2 : Nat) : Int), .int .u64 ((wd m 3 : Nat) : Int)] 133 :: L) w) :
    Calls Try.prog 84 #[.pointer (some ⟨b, 0, none⟩), .bool inn] w (fun r_ w' => ∃ ao co, r_ = .returned (.slice ao (sel m inn c.N.toNat).length co) ∧
      Hp w0 Non (Res.own 3 1 (.slice ao (sel m inn c.N.toNat).length co) (sel m inn c.N.toNat).length (List.flatMap (fun (y : Nat) => [Go.Value.int .i64 (y : Int)]) (sel m inn c.N.toNat)) :: Res.row b [.int .i64 c.N, .int .i64 c.K, .int .i64 c.Delta, .int .u64 ((wd m 0 : Nat) : Int), .int .u64 ((wd m 1 : Nat) : Int), .int .u64 ((wd m 2 : Nat) : Int), .int .u64 ((wd m 3 : Nat) : Int)] 133 :: L) w') := by
  have hrow : (Res.row b [.int .i64 c.N, .int .i64 c.K, .int .i64 c.Delta, .int .u64 ((wd m 0 : Nat) : Int), .int .u64 ((wd m 1 : Nat) : Int), .int .u64 ((wd m 2 : Nat) : Int), .int .u64 ((wd m 3 : Nat) : Int)] 133).holds w := hp0.get0
  refine (callsIn_wide.1 (those_in b c m inn hok w (hp0.lt0 b rfl) (SetC.of hrow))).mono ?_
  rintro e W' ⟨v, rfl, hown, hnil, hB⟩
  rw [flat_ints] at hown
  have hown0 : (Res.own 3 1 v (sel m inn c.N.toNat).length (List.flatMap (fun (y : Nat) => [Go.Value.int .i64 (y : Int)]) (sel m inn c.N.toNat))).holds W' := by
    obtain ⟨h1, h2⟩ := hown
    refine ⟨h1, ?_⟩
    rcases h2 with h2 | ⟨g, cap, cur, hv, hg, hh, r⟩
    · exact .inl h2
    · exact .inr ⟨g, cap, cur, hv, Nat.zero_le _, hh, r⟩
  obtain ⟨ao, co, rfl⟩ := own_slice hown0
  refine ⟨ao, co, rfl, hp0.new (Fram.of_below hB) _ hown0 fun k hk => ?_⟩
  have hk' : (Value.slice ao (sel m inn c.N.toNat).length co).ownBlock = some k := hk
  exact hown.lt k hk'

end Go.Proofs.Ythdkbbpiaeaojaa.K
