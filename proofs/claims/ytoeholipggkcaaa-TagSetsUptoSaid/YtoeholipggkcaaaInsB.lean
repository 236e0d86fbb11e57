/- The walks of InsB: what each function computes. -/
import Derived.Test.YtoeholipggkcaaaProg
import Derived.Test.YtoeholipggkcaaaCoreO
import Derived.Test.YtoeholipggkcaaaInsA
import Derived.Test.YtoeholipggkcaaaInsS
namespace Go.Proofs.Ytoeholipggkcaaa.K
open Go Go.Proofs Go.RowKit
set_option linter.unusedVariables false
set_option linter.unusedSimpArgs false
set_option maxRecDepth 20000
set_option maxHeartbeats 4000000

theorem t_Delete (w0 : World) (L : List Res) (xs : List GTag) (a : Option Addr) (n c at_ : Nat) (w : World) (hi : at_ ≤ n) (hn : n ≤ 4194304) (hp0 : Hp w0 Non (Res.own 29 2 (.slice a n c) n (List.flatMap GTag.cells xs) :: L) w) :
    Calls Try.prog 20 #[.slice a n c, .int .i64 0, .int .i64 ((at_ : Nat) : Int)] w (fun r_ w' => r_ = .returned (.slice a (n - at_) c) ∧ Hp w0 Non (Res.own 29 2 (.slice a (n - at_) c) (n - at_) (List.flatMap GTag.cells (xs.drop at_)) :: L) w') := by
  have hlx := own_flat (sz := 2) (fun _ => rfl) (by decide) hp0.get0
  have hnc := own_cap hp0.get0
  refine calls_of Try.func20 rfl 33 rfl (by simp) ?_
  have he0 : List.map (env0 [.slice a n c, .int .i64 0, .int .i64 ((at_ : Nat) : Int)]) [0, 1, 2] = [.slice a n c, .int .i64 0, .int .i64 ((at_ : Nat) : Int)] := by kernel_rfl
  obtain ⟨b0, he0⟩ := toMk he0
  rw [he0]
  clear he0
  refine WP.seq ?_
  refine WP.pure {} [] [0, 1, 2] [.slice a n c, .int .i64 0, .int .i64 ((at_ : Nat) : Int)] .nil (by kernel_rfl) (fun b1 => ?_)
  refine thn_n ?_
  refine WP.seq ?_
  refine WP.region _ rfl (by kernel_rfl) ?_
  refine OPS.batch 5 {} [] [0, 1, 2, 8, 9, 10, 12] [.slice a n c, .int .i64 0, .int .i64 ((at_ : Nat) : Int), .slice a n c, .int .i64 0, .int .i64 ((at_ : Nat) : Int), .int .i64 ((n : Nat) : Int)] .nil (by kernel_rfl) (fun b2 => ?_)
  refine OPS.cons (opStep.slice3 (E := 29) (sz := 2) (bytes := 16) (l := 0) (h := ((at_ : Nat) : Int)) (m := ((n : Nat) : Int)) (by kernel_rfl) rfl rfl rfl rfl (by omega) (by omega) (by omega) (by omega) ?_)
  refine OPS.nil ?_
  refine thn_n ?_
  refine WP.seq ?_
  refine WP.seq ?_
  refine WP.pure {} [] [0, 1, 2, 16] [.slice a n c, .int .i64 0, .int .i64 ((at_ : Nat) : Int), .bool (decide (0 = ((at_ : Nat) : Int)))] .nil (by kernel_rfl) (fun b5 => ?_)
  refine thn_n ?_
  refine WP.test (p := 0 = ((at_ : Nat) : Int)) rfl Bp.dec (fun h6 => ?_) (fun h6 => ?_)
  · refine WP.seq ?_
    refine WP.pure {} [] [6] [.slice a n c] .nil (by kernel_rfl) (fun b7 => ?_)
    refine thn_n ?_
    refine WP.ret ?_
    refine thn_r ?_
    refine bodyQ.of _ rfl [.slice a n c] ⟨rfl, trivial⟩ ?_
    obtain rfl : at_ = 0 := by omega
    exact ⟨rfl, by rw [Nat.sub_zero, List.drop_zero]; exact hp0⟩
  · refine WP.skip ?_
    refine thn_n ?_
    refine WP.seq ?_
    obtain ⟨g, rfl, hnc2⟩ := own_some hp0 (by omega)
    refine WP.pure {} [] [0, 1, 2, 7] [.slice (some ⟨g, 0, none⟩) n c, .int .i64 0, .int .i64 ((at_ : Nat) : Int), .int .i64 ((n : Nat) : Int)] .nil (by kernel_rfl) (fun b8 => ?_)
    refine thn_n ?_
    refine WP.seq ?_
    have hp9 := hp0.drew
    have := own_cap hp9.get0
    have := own_cap hp9.get0
    refine WP.held (fun w10 => True) [] [(0, true), (1, true), (2, true), (3, true), (4, true), (5, true), (6, false), (7, true)] (np_thn np_body) (by kernel_rfl) ?_
    have := own_cap hp9.get0
    have := own_cap hp9.get0
    refine HOPS.take 6 {} [] [7, 22, 25] [.int .i64 ((n : Nat) : Int), .slice (some ⟨g, 0, none⟩) 0 c, .slice (slOff (some ⟨g, 0, none⟩) c (at_) 2) (n - at_) (c - at_)] (by kernel_rfl) trivial (fun w11 hS12 => QB.mk (.cons (show (0 : Int) ≤ 0 ∧ 0 ≤ ((c : Nat) : Int) from ⟨by omega, by omega⟩) (.cons (show (0 : Int) ≤ ((at_ : Nat) : Int) ∧ ((at_ : Nat) : Int) ≤ ((n : Nat) : Int) from ⟨by omega, by omega⟩) .nil)) (by kernel_rfl)) (fun b13 => ?_)
    obtain ⟨ad18, ha19, hb20⟩ := del_src (f := GTag.cells) (sz := 2) (i := at_) (c := c) (fun _ => rfl) (SlR.own hp9.get0).rd (by omega) (by omega)
    refine HOPS.eff _ rfl (opStep.appendI (A := []) (bytes := 16) (i := 0) (news := (List.flatMap GTag.cells (List.drop at_ xs))) hp9 (by kernel_rfl) rfl rfl ha19 (by rw [flat_len (sz := 2) (fun _ => rfl), List.length_drop, hlx]) hb20 (one_flat (fun _ => rfl)) (by omega) (fun w16 hp17 => ?_))
    simp only [List.nil_append] at hp17
    refine ⟨.inr trivial, ?_⟩
    refine HOPS.take 1 {} [] [0, 7] [.slice (some ⟨g, 0, none⟩) (0 + (n - at_)) c, .int .i64 ((n : Nat) : Int)] (by kernel_rfl) trivial (fun w21 hS22 => QB.mk .nil (by kernel_rfl)) (fun b23 => ?_)
    refine HOPS.nil ?_
    refine thn_n ?_
    refine WP.seq ?_
    refine WP.region _ rfl (by kernel_rfl) ?_
    have := own_cap hp17.get0
    refine OPS.batch 5 {} [] [0, 31] [.slice (some ⟨g, 0, none⟩) (0 + (n - at_)) c, .slice (slOff (some ⟨g, 0, none⟩) c ((0 + (n - at_))) 2) (n - (0 + (n - at_))) (c - (0 + (n - at_)))] (.cons (show (0 : Int) ≤ ((0 + (n - at_) : Nat) : Int) ∧ ((0 + (n - at_) : Nat) : Int) ≤ ((n : Nat) : Int) ∧ ((n : Nat) : Int) ≤ ((c : Nat) : Int) from ⟨by omega, by omega, by omega⟩) .nil) (by kernel_rfl) (fun b24 => ?_)
    refine OPS.cons (opStep.clearO (A := []) (bytes := 16) (p := (n - at_) * 2) (k := n - (0 + (n - at_))) hp17 (by kernel_rfl) (by kernel_rfl) (by decide) rfl (by rw [slOff_lt (by omega)]; congr 2; omega) (by omega) (by omega) (fun zs29 w27 hz30 hp28 => ?_))
    simp only [List.nil_append] at hp28
    refine OPS.nil ?_
    refine thn_n ?_
    refine WP.seq ?_
    refine WP.pure {} [] [6] [.slice (some ⟨g, 0, none⟩) (0 + (n - at_)) c] .nil (by kernel_rfl) (fun b31 => ?_)
    refine thn_n ?_
    refine WP.ret ?_
    refine bodyQ.of _ rfl [.slice (some ⟨g, 0, none⟩) (0 + (n - at_)) c] ⟨rfl, trivial⟩ ?_
    have hp32 := Hp.turn (A := []) hp28 (Res.own 29 2 (.slice (some ⟨g, 0, none⟩) (n - at_) c) (n - at_) (List.flatMap GTag.cells (List.drop at_ xs))) (fun hh => by rw [← ow_del (f := GTag.cells) (sz := 2) (n := n - at_) (fun _ => rfl) (by omega) (by omega) (by rw [hz30]; congr 1; omega)]; exact own_cut (by omega) hh) own_foot
    exact ⟨by rw [Nat.zero_add]; rfl, hp32⟩

end Go.Proofs.Ytoeholipggkcaaa.K
