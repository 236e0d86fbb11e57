/- The servers of a set as a list: the iterator and the loop over it. -/
import Derived.RangeFuncNested
import Derived.RangeFuncBox
import Derived.RangeFuncBound
import Derived.RangeFuncCalls
import Derived.RangeFuncLeaves
import Derived.Shelf.Abstract
import Derived.Shelf.RegionOpen
import Derived.WalkKit
import Derived.OwnWalkIn
import Derived.TacticsInMore
import Derived.LoopNIn
import Derived.LoopIn
import Derived.Maps.AppendAt
import Derived.Stop.RegionWithIn
import Derived.Test.YthdkbbpiaeaojaaQuoI
namespace Go.Proofs.Ythdkbbpiaeaojaa.K
open Go Go.Proofs Go.RowKit Go.Shelf
set_option linter.unusedVariables false
set_option linter.unusedSimpArgs false
attribute [local go_sem] Oper.semAt_some

set_option maxRecDepth 100000 in
set_option maxHeartbeats 2000000 in
theorem each1_nil (n l B1 B2 : Nat) (J Jx : List Nat → World → Prop) (W : World) (hB1 : W.cell? ⟨B1, 0, none⟩ = some (.pointer none)) (h0 : J [] W) :
    CallsIn Fence.wide n Try.prog 131 #[.func (.yield l) #[] #[], .pointer (some ⟨B1, 0, none⟩), .pointer (some ⟨B2, 0, none⟩)] W fun e W' => (∃ v, e = .returned v) ∧
      ((∃ ys, ys = ([] : List Nat) ∧ J ys W') ∨ (∃ pre : List Nat, pre <+: ([] : List Nat) ∧ Jx pre W')) := by
  refine callsIn_of_wp Try.func131 rfl trivial ?_ rfl
  simp only [Try.ntmps131, List.size_toArray, List.length_cons, List.length_nil, Nat.reduceAdd, Nat.reduceSub, Array.replicate_succ, Array.replicate_zero, List.push_toArray, List.append_toArray, List.nil_append, List.cons_append]
  gi_wp2
  gi_loopw [4] (fun i wr => i = .int .i64 0 ∧ J [] wr ∧ wr.cell? ⟨B1, 0, none⟩ = some (.pointer none)) (fun i wr => 0)
  case atStart => exact ⟨rfl, h0, hB1⟩
  case round =>
    obtain ⟨rfl, hJ, c1⟩ := hrel
    gi_wp2
    go_end0
    exact ⟨⟨_, rfl⟩, .inl ⟨_, rfl, hJ⟩⟩
theorem each_stops_nil (n B1 B2 n₀ : Nat) (w : World) (h1 : B1 < w.heap.size) (hc1 : w.cell? ⟨B1, 0, none⟩ = some (.pointer none)) :
    SeqStopsK Fence.wide n Try.prog 131 #[.pointer (some ⟨B1, 0, none⟩), .pointer (some ⟨B2, 0, none⟩)] (fun x : Nat => #[Value.int .i64 (x : Int)]) (KpS n₀ B1 B2) (fun ys => ys = ([] : List Nat)) (fun pre => pre <+: ([] : List Nat)) ([] : List Nat).length w := fun l J Jx W hW hJ _ hY h00 =>
  each1_nil n l B1 B2 J Jx W ((hW.cell (p := ⟨B1, 0, none⟩) h1).trans hc1) h00
set_option maxRecDepth 100000 in
set_option maxHeartbeats 2000000 in
theorem those_nil_in (inn : Bool) (w : World) :
    CallsIn Fence.wide 9 Try.prog 84 #[.pointer none, .bool inn] w fun e W' => ∃ v, e = .returned v ∧ W'.ownsRow w.heap.size 3 1 v ([] : List Nat).length (([] : List Nat).map fun (x : Nat) => Value.int .i64 (x : Int)) ∧ (v = .slice none 0 0 ↔ ([] : List Nat) = []) ∧ Below w.heap.size w W' := by
  obtain ⟨i0, hi, hz0, hz1, hz2⟩ := info_parts those_info
  refine callsIn_of_wp_marks Try.func84 rfl trivial ?_ rfl
  simp only [Try.ntmps84, List.size_toArray, List.length_cons, List.length_nil, Nat.reduceAdd, Nat.reduceSub, Array.replicate_succ, Array.replicate_zero, List.push_toArray, List.append_toArray, List.nil_append, List.cons_append]
  gi_wp2_with (first | (refine ⟨trivial, ?_⟩; gi_at_call 118; refine (each_in _ _ _ _).mono ?_; rintro e w' ⟨rfl, rfl⟩) | (gi_at_call 118; refine (each_in _ _ _ _).mono ?_; rintro e w' ⟨rfl, rfl⟩))
  have bO := Boxed.new w 36 (.slice none 0 0)
  have bP := Boxed.new (w.alloc (.cells #[.slice none 0 0] 36)) 62 (.pointer none)
  have bN := Boxed.new ((w.alloc (.cells #[.slice none 0 0] 36)).alloc (.cells #[.pointer none] 62)) 4 (.bool inn)
  simp only [World.size_alloc] at bP bN
  have hB0 : Below w.heap.size w (((w.alloc (.cells #[.slice none 0 0] 36)).alloc (.cells #[.pointer none] 62)).alloc (.cells #[.bool inn] 4)) := (((Below.refl _ w).alloc (Nat.le_refl _) _).alloc (by simp) _).alloc (by simp; omega) _
  refine wpIn_rangeFunc_ownG rfl (by decide) (gf := 131) (lb := #[.pointer (some ⟨w.heap.size + 1, 0, none⟩), .pointer (some ⟨w.heap.size + 1 + 1, 0, none⟩)]) rfl trivial (enters_of Try.func131 (by kernel_rfl) rfl)
    (each_stops_nil 8 (w.heap.size + 1) (w.heap.size + 1 + 1) w.heap.size _ (by simp) (bP.alloc _).cell) kpS_t (kpS_b (by simp; omega) (by simp) (by simp)) (Below.refl _ _) (fun _ => rfl)
    (fun pre W => (∃ v, Boxed W w.heap.size 36 v ∧ W.ownsRow w.heap.size 3 1 v pre.length (pre.map fun (x : Nat) => Value.int .i64 (x : Int)) ∧ (v = .slice none 0 0 ↔ pre = [])) ∧ ((Boxed W (w.heap.size + 1) 62 (.pointer none) ∧ Boxed W (w.heap.size + 1 + 1) 4 (.bool inn)) ∧ Below w.heap.size w W))
    (fun _ _ _ => False)
    (OwnFrom.and (Own.from (holdsRow_own w.heap.size w.heap.size 36 3 1 (fun pre => pre.length) (fun pre => pre.map fun (x : Nat) => Value.int .i64 (x : Int)) (fun pre v => v = .slice none 0 0 ↔ pre = [])) _) (OwnFrom.and (OwnFrom.and (Own.from (boxed_own _ _ _) _) (Own.from (boxed_own _ _ _) _)) (ownFrom_below (Nat.le_refl _) (by simp; omega))))
    (fun _ _ _ _ _ hs _ _ => hs)
    ⟨⟨_, (bO.alloc _).alloc _, World.ownsRow_nil _ _ _ _, by simp⟩, ⟨bP.alloc _, bN⟩, hB0⟩
    (fun x => { tmps := #[.pointer none, .bool inn, undef, undef, .slice none 0 0, .pointer (some ⟨w.heap.size, 0, none⟩), .int .i64 (x : Int), .pointer none, .bool inn, .func (.func 131) #[] #[.pointer (some ⟨w.heap.size + 1, 0, none⟩), .pointer (some ⟨w.heap.size + 1 + 1, 0, none⟩)], .int .i64 (x : Int), undef, undef, undef, undef, undef], defers := [] }) ?assign ?body ?done ?stop
  case assign =>
    intro l x W K hK
    gi_wp2
    exact hK
  case body =>
    rintro l pre x W _ hlt
    exact absurd hlt (by simp)
  case done =>
    rintro D ys W hD rfl ⟨⟨v, hv, hrow, hnil⟩, _, hB⟩ hK
    have hc := hv.cell
    gi_wp2
    refine ⟨by simp, .inl ⟨_, _, rfl, run_takeDeferred hK, ?_⟩⟩
    exact ⟨_, results_tmp rfl _ _ _, v, rfl, ownsRow_putObj hrow _ hK rfl, (by simpa using hnil), hB.trans (belowK_b (w := w) (Nat.le_refl _) W D _ _ (by simp at hD; omega) hK rfl rfl)⟩
  case stop =>
    rintro D c pre W _ _ h _
    exact h.elim

theorem q_those_nil (w : World) (inn : Bool) : Calls Try.prog 84 #[.pointer none, .bool inn] w (fun r_ w' => r_ = .returned (.slice none 0 0) ∧ Fram Non w w') := by
  refine (callsIn_wide.1 (those_nil_in inn w)).mono ?_
  rintro e W' ⟨v, rfl, hown, hnil, hB⟩
  exact ⟨by rw [show v = .slice none 0 0 from by simpa using hnil], Fram.of_below hB⟩

end Go.Proofs.Ythdkbbpiaeaojaa.K
