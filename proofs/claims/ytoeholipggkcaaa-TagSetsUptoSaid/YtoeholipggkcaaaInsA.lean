/- The walks of InsA: what each function computes. -/
import Derived.Test.YtoeholipggkcaaaProg
import Derived.Test.YtoeholipggkcaaaCoreO
import Derived.Test.YtoeholipggkcaaaInsR
namespace Go.Proofs.Ytoeholipggkcaaa.K
open Go Go.Proofs Go.RowKit
set_option linter.unusedVariables false
set_option linter.unusedSimpArgs false
set_option maxRecDepth 20000
set_option maxHeartbeats 4000000

structure GTag where
  Count : Int
  Client : Int
def GTag.cells (x : GTag) : List Go.Value := [.int .i64 x.Count, .int .i64 x.Client]
def GTag.val (x : GTag) : Go.Value := .agg x.cells.toArray
instance : Inhabited GTag := ⟨⟨0, 0⟩⟩
theorem GTag.len (x : GTag) : x.cells.length = 2 := rfl
theorem t_Insert (w0 : World) (L : List Res) (xs : List GTag) (a : Option Addr) (n c i : Nat) (t : GTag) (vb : Nat) (w : World) (hi : i ≤ n) (hn : n ≤ 4194304) (hp0 : Hp w0 Non (Res.own 29 2 (.slice a n c) n (List.flatMap GTag.cells xs) :: Res.row vb t.cells 29 :: L) w) :
    Calls Try.prog 19 #[.slice a n c, .int .i64 ((i : Nat) : Int), .slice (some ⟨vb, 0, none⟩) 1 1] w (fun r_ w' => ∃ a2 c2, r_ = .returned (.slice a2 (n + 1) c2) ∧ Hp w0 Non (Res.own 29 2 (.slice a2 (n + 1) c2) (n + 1) (List.flatMap GTag.cells (xs.take i ++ t :: xs.drop i)) :: Res.row vb t.cells 29 :: L) w') := by
  refine calls_of Try.func19 rfl 95 rfl (by simp) ?_
  have he0 : List.map (env0 [.slice a n c, .int .i64 ((i : Nat) : Int), .slice (some ⟨vb, 0, none⟩) 1 1]) [0, 1, 2] = [.slice a n c, .int .i64 ((i : Nat) : Int), .slice (some ⟨vb, 0, none⟩) 1 1] := by kernel_rfl
  obtain ⟨b0, he0⟩ := toMk he0
  rw [he0]
  clear he0
  refine WP.seq ?_
  refine WP.pure {} [] [0, 1, 2] [.slice a n c, .int .i64 ((i : Nat) : Int), .slice (some ⟨vb, 0, none⟩) 1 1] .nil (by kernel_rfl) (fun b1 => ?_)
  refine thn_n ?_
  refine WP.seq ?_
  have := own_cap hp0.get0
  refine WP.pure {} [] [0, 1, 2] [.slice a n c, .int .i64 ((i : Nat) : Int), .slice (some ⟨vb, 0, none⟩) 1 1] (.cons (show (0 : Int) ≤ ((i : Nat) : Int) ∧ ((i : Nat) : Int) ≤ ((n : Nat) : Int) from ⟨by omega, by omega⟩) .nil) (by kernel_rfl) (fun b2 => ?_)
  refine thn_n ?_
  refine WP.seq ?_
  refine WP.pure {} [] [0, 1, 2, 7] [.slice a n c, .int .i64 ((i : Nat) : Int), .slice (some ⟨vb, 0, none⟩) 1 1, .int .i64 1] .nil (by kernel_rfl) (fun b3 => ?_)
  refine thn_n ?_
  refine WP.seq ?_
  refine WP.seq ?_
  refine WP.pure {} [] [0, 1, 2, 7, 16] [.slice a n c, .int .i64 ((i : Nat) : Int), .slice (some ⟨vb, 0, none⟩) 1 1, .int .i64 1, .bool false] .nil (by kernel_rfl) (fun b4 => ?_)
  refine thn_n ?_
  refine WP.condF rfl ?_
  refine WP.skip ?_
  refine thn_n ?_
  refine WP.seq ?_
  refine WP.pure {} [] [0, 1, 2, 7, 8] [.slice a n c, .int .i64 ((i : Nat) : Int), .slice (some ⟨vb, 0, none⟩) 1 1, .int .i64 1, .int .i64 ((n : Nat) : Int)] .nil (by kernel_rfl) (fun b5 => ?_)
  refine thn_n ?_
  refine WP.seq ?_
  refine WP.seq ?_
  refine WP.pure {} [] [0, 1, 2, 7, 8, 22] [.slice a n c, .int .i64 ((i : Nat) : Int), .slice (some ⟨vb, 0, none⟩) 1 1, .int .i64 1, .int .i64 ((n : Nat) : Int), .bool (decide (((i : Nat) : Int) = ((n : Nat) : Int)))] .nil (by kernel_rfl) (fun b6 => ?_)
  refine thn_n ?_
  refine WP.test (p := ((i : Nat) : Int) = ((n : Nat) : Int)) rfl Bp.dec (fun h7 => ?_) (fun h7 => ?_)
  · refine WP.seq ?_
    refine WP.region _ rfl (by kernel_rfl) ?_
    refine OPS.batch 2 {} [] [23, 24] [.slice a n c, .slice (some ⟨vb, 0, none⟩) 1 1] .nil (by kernel_rfl) (fun b8 => ?_)
    refine OPS.cons (opStep.append0 [.int .i64 t.Count, .int .i64 t.Client] hp0 16 (by kernel_rfl) rfl rfl rfl (SlR.row (n := 1) hp0.get1 rfl).rd (List.all_eq_true.1 (by kernel_rfl)) (by decide) (by omega) (by omega) (fun a11 c12 w13 hp14 hn15 => ?_))
    rw [(show List.flatMap GTag.cells xs ++ [.int .i64 t.Count, .int .i64 t.Client] = List.flatMap GTag.cells (xs ++ [t]) from (List.flatMap_append (xs := xs) (ys := [t])).symm)] at hp14
    refine OPS.batch 1 {} [] [6] [.slice a11 (n + 1) c12] .nil (by kernel_rfl) (fun b16 => ?_)
    refine OPS.nil ?_
    refine thn_n ?_
    refine WP.ret ?_
    refine thn_r ?_
    refine bodyQ.of _ rfl [.slice a11 (n + 1) c12] ⟨rfl, trivial⟩ ?_
    have hlx := own_flat (sz := 2) (fun _ => rfl) (by decide) hp14.get0
    simp only [List.length_append, List.length_cons, List.length_nil] at hlx
    have e_ : xs.take i ++ t :: xs.drop i = xs ++ [t] := by rw [List.take_of_length_le (by omega), List.drop_of_length_le (by omega)]
    rw [e_]
    exact ⟨_, _, rfl, hp14⟩
  · refine WP.skip ?_
    refine thn_n ?_
    refine WP.seq ?_
    refine WP.seq ?_
    have hlx := own_flat (sz := 2) (fun _ => rfl) (by decide) hp0.get0
    obtain ⟨g, rfl, hnc⟩ := own_some hp0 (by omega)
    refine WP.pure { subs := [28] } [.int .i64 ((n + 1 : Nat) : Int)] [0, 1, 2, 7, 8, 31] [.slice (some ⟨g, 0, none⟩) n c, .int .i64 ((i : Nat) : Int), .slice (some ⟨vb, 0, none⟩) 1 1, .int .i64 1, .int .i64 ((n : Nat) : Int), .bool (decide (((c : Nat) : Int) < ((n + 1 : Nat) : Int)))] (.cons (show Rng .i64 (((n : Nat) : Int) + 1) from Rng.i64 (by omega)) (.cons (show (.int .i64 (((n : Nat) : Int) + 1) : Go.Value) = .int .i64 ((n + 1 : Nat) : Int) from congrArg (Value.int .i64) ((show ((n : Nat) : Int) + 1 = ((n + 1 : Nat) : Int) by omega))) .nil)) (by kernel_rfl) (fun b17 => ?_)
    refine thn_n ?_
    refine WP.test (p := ((c : Nat) : Int) < ((n + 1 : Nat) : Int)) rfl Bp.dec (fun h18 => ?_) (fun h18 => ?_)
    · refine WP.seq ?_
      refine WP.region _ rfl (by kernel_rfl) ?_
      have := own_cap hp0.get0
      refine OPS.batch 8 { subs := [37, 39] } [.int .i64 ((n + 1 : Nat) : Int), .int .i64 (((n + 1) - i : Nat) : Int)] [0, 1, 2, 7, 34, 39] [.slice (some ⟨g, 0, none⟩) n c, .int .i64 ((i : Nat) : Int), .slice (some ⟨vb, 0, none⟩) 1 1, .int .i64 1, .slice (some ⟨g, 0, none⟩) i c, .int .i64 (((n + 1) - i : Nat) : Int)] (.cons (show (0 : Int) ≤ ((i : Nat) : Int) ∧ ((i : Nat) : Int) ≤ ((c : Nat) : Int) from ⟨by omega, by omega⟩) (.cons (show Rng .i64 (((n : Nat) : Int) + 1) from Rng.i64 (by omega)) (.cons (show (.int .i64 (((n : Nat) : Int) + 1) : Go.Value) = .int .i64 ((n + 1 : Nat) : Int) from congrArg (Value.int .i64) ((show ((n : Nat) : Int) + 1 = ((n + 1 : Nat) : Int) by omega))) (.cons (show Rng .i64 (((n + 1 : Nat) : Int) - ((i : Nat) : Int)) from Rng.i64 (by omega)) (.cons (show (.int .i64 (((n + 1 : Nat) : Int) - ((i : Nat) : Int)) : Go.Value) = .int .i64 (((n + 1) - i : Nat) : Int) from congrArg (Value.int .i64) ((show ((n + 1 : Nat) : Int) - ((i : Nat) : Int) = (((n + 1) - i : Nat) : Int) by omega))) .nil))))) (by kernel_rfl) (fun b19 => ?_)
      refine OPS.cons (opStep.appendZ (A := []) (kn := .i64) hp0 16 (by kernel_rfl) (by kernel_rfl) (by decide) rfl rfl (by omega) (by omega) (by omega) (by omega) (by simp only [maxLen]; omega) (fun g22 c23 zs24 w25 hz26 hc27 hp28 => ?_))
      simp only [List.nil_append] at hp28
      refine OPS.batch 1 {} [] [0, 1, 2, 7, 9] [.slice (some ⟨g, 0, none⟩) n c, .int .i64 ((i : Nat) : Int), .slice (some ⟨vb, 0, none⟩) 1 1, .int .i64 1, .slice (some ⟨g22, 0, none⟩) (i + ((n + 1) - i)) c23] .nil (by kernel_rfl) (fun b29 => ?_)
      refine OPS.nil ?_
      refine thn_n ?_
      refine WP.seq ?_
      refine WP.region _ rfl (by kernel_rfl) ?_
      have := own_cap hp28.get0
      refine OPS.batch 4 {} [] [0, 1, 7, 9, 43, 44] [.slice (some ⟨g, 0, none⟩) n c, .int .i64 ((i : Nat) : Int), .int .i64 1, .slice (some ⟨g22, 0, none⟩) (i + ((n + 1) - i)) c23, .slice (slOff (some ⟨g22, 0, none⟩) c23 (i) 2) ((i + ((n + 1) - i)) - i) (c23 - i), .slice (some ⟨vb, 0, none⟩) 1 1] (.cons (show (0 : Int) ≤ ((i : Nat) : Int) ∧ ((i : Nat) : Int) ≤ ((i + ((n + 1) - i) : Nat) : Int) from ⟨by omega, by omega⟩) .nil) (by kernel_rfl) (fun b30 => ?_)
      refine OPS.cons (opStep.copyO (bytes := 16) (A := []) (p := i * 2) (k := 1) (vs := (GTag.cells t)) hp28 (by kernel_rfl) rfl rfl (slOff_lt (by omega)) rfl (by show min _ _ = _; omega) rfl (SlR.row (n := 1) hp28.get2 rfl).rd (List.all_eq_true.1 (by kernel_rfl)) (by have h_ : ((GTag.cells t)).length = 1 * 2 := rfl; omega) (fun w33 hp34 => ?_))
      simp only [List.cons_append, List.nil_append] at hp34
      refine OPS.nil ?_
      refine thn_n ?_
      refine WP.seq ?_
      have hp35 := hp34.drew
      have := own_cap hp35.get0
      have := own_cap hp35.get1
      refine WP.held (fun w36 => True) [] [(0, true), (1, true), (2, true), (3, true), (4, true), (5, true), (6, true), (7, true), (8, false)] (np_thn (np_thn np_body)) (by kernel_rfl) ?_
      have := own_cap hp35.get0
      have := own_cap hp35.get1
      refine HOPS.take 8 { subs := [49] } [.int .i64 ((i + 1 : Nat) : Int)] [9, 50, 53] [.slice (some ⟨g22, 0, none⟩) (i + ((n + 1) - i)) c23, .slice (slOff (some ⟨g22, 0, none⟩) c23 ((i + 1)) 2) ((i + ((n + 1) - i)) - (i + 1)) (c23 - (i + 1)), .slice (slOff (some ⟨g, 0, none⟩) c (i) 2) (n - i) (c - i)] (by kernel_rfl) trivial (fun w37 hS38 => QB.mk (.cons (show Rng .i64 (((i : Nat) : Int) + 1) from Rng.i64 (by omega)) (.cons (show (.int .i64 (((i : Nat) : Int) + 1) : Go.Value) = .int .i64 ((i + 1 : Nat) : Int) from congrArg (Value.int .i64) ((show ((i : Nat) : Int) + 1 = ((i + 1 : Nat) : Int) by omega))) (.cons (show (0 : Int) ≤ ((i + 1 : Nat) : Int) ∧ ((i + 1 : Nat) : Int) ≤ ((i + ((n + 1) - i) : Nat) : Int) from ⟨by omega, by omega⟩) (.cons (show (0 : Int) ≤ ((i : Nat) : Int) ∧ ((i : Nat) : Int) ≤ ((n : Nat) : Int) from ⟨by omega, by omega⟩) .nil)))) (by kernel_rfl)) (fun b39 => ?_)
      refine HOPS.eff _ rfl (opStep.copyO (bytes := 16) (A := []) (p := (i + 1) * 2) (k := (n - i)) (vs := (List.flatMap GTag.cells (List.drop i xs))) hp35 (by kernel_rfl) rfl rfl (slOff_lt (by omega)) (slOff_lt (by omega)) (by show min _ _ = _; omega) (by rw [flat_len (sz := 2) (fun _ => rfl), List.length_drop, hlx]) (rd_drop (f := GTag.cells) (sz := 2) (i := i) (fun _ => rfl) (by have h_ := (SlR.own hp35.get1).rd; rwa [← List.append_nil (List.flatMap GTag.cells xs)] at h_) (by omega)) (one_flat (fun _ => rfl)) (by have h_ : ((List.flatMap GTag.cells (List.drop i xs))).length = (n - i) * 2 := (by rw [flat_len (sz := 2) (fun _ => rfl), List.length_drop, hlx]); omega) (fun w42 hp43 => ?_))
      simp only [List.cons_append, List.nil_append] at hp43
      refine ⟨.inr trivial, ?_⟩
      refine HOPS.nil ?_
      refine thn_n ?_
      refine WP.seq ?_
      refine WP.pure {} [] [6] [.slice (some ⟨g22, 0, none⟩) (i + ((n + 1) - i)) c23] .nil (by kernel_rfl) (fun b44 => ?_)
      refine thn_n ?_
      refine WP.ret ?_
      refine thn_r ?_
      refine bodyQ.of _ rfl [.slice (some ⟨g22, 0, none⟩) (i + ((n + 1) - i)) c23] ⟨rfl, trivial⟩ ?_
      have h_ := (hp43.sub (.cons_cons _ (.cons _ (.cons_cons _ (.refl _)))))
      rw [ow_ins2 (f := GTag.cells) (sz := 2) (fun _ => rfl) (by omega) t (by rw [hz26]; congr 1; omega)] at h_
      rw [show i + (n + 1 - i) = n + 1 from by omega] at h_
      refine ⟨_, _, ?_, h_⟩
      · rw [show i + (n + 1 - i) = n + 1 from by omega]; rfl
    · refine WP.skip ?_
      refine thn_n ?_
      refine WP.seq ?_
      obtain ⟨ys, hys, hp45⟩ := Hp.stretch (A := []) (m := n + 1) hp0 (by omega) (by omega)
      have hys : ys.length = 2 := by rw [hys]; omega
      simp only [List.nil_append] at hp45
      have := own_cap hp45.get0
      refine WP.pure { subs := [59] } [.int .i64 ((n + 1 : Nat) : Int)] [0, 1, 2, 7, 8] [.slice (some ⟨g, 0, none⟩) (n + 1) c, .int .i64 ((i : Nat) : Int), .slice (some ⟨vb, 0, none⟩) 1 1, .int .i64 1, .int .i64 ((n : Nat) : Int)] (.cons (show Rng .i64 (((n : Nat) : Int) + 1) from Rng.i64 (by omega)) (.cons (show (.int .i64 (((n : Nat) : Int) + 1) : Go.Value) = .int .i64 ((n + 1 : Nat) : Int) from congrArg (Value.int .i64) ((show ((n : Nat) : Int) + 1 = ((n + 1 : Nat) : Int) by omega))) (.cons (show (0 : Int) ≤ ((n + 1 : Nat) : Int) ∧ ((n + 1 : Nat) : Int) ≤ ((c : Nat) : Int) from ⟨by omega, by omega⟩) .nil))) (by kernel_rfl) (fun b46 => ?_)
      refine thn_n ?_
      refine WP.seq ?_
      refine WP.seq ?_
      refine WP.region _ rfl (by kernel_rfl) ?_
      refine OPS.batch 6 { subs := [65] } [.int .i64 ((i + 1 : Nat) : Int)] [0, 1, 2, 7, 8, 61, 66] [.slice (some ⟨g, 0, none⟩) (n + 1) c, .int .i64 ((i : Nat) : Int), .slice (some ⟨vb, 0, none⟩) 1 1, .int .i64 1, .int .i64 ((n : Nat) : Int), .slice (some ⟨vb, 0, none⟩) 1 1, .slice (slOff (some ⟨g, 0, none⟩) c ((i + 1)) 2) ((n + 1) - (i + 1)) (c - (i + 1))] (.cons (show Rng .i64 (((i : Nat) : Int) + 1) from Rng.i64 (by omega)) (.cons (show (.int .i64 (((i : Nat) : Int) + 1) : Go.Value) = .int .i64 ((i + 1 : Nat) : Int) from congrArg (Value.int .i64) ((show ((i : Nat) : Int) + 1 = ((i + 1 : Nat) : Int) by omega))) (.cons (show (0 : Int) ≤ ((i + 1 : Nat) : Int) ∧ ((i + 1 : Nat) : Int) ≤ (((n + 1) : Nat) : Int) from ⟨by omega, by omega⟩) .nil))) (by kernel_rfl) (fun b47 => ?_)
      have hov50 : (callFunc 32 #[.slice (some ⟨vb, 0, none⟩) 1 1, .slice (slOff (some ⟨g, 0, none⟩) c ((i + 1)) 2) ((n + 1) - (i + 1)) (c - (i + 1))]).run Try.prog w = .ok (.value (.bool false)) w := by rw [run_callFunc_extern Try.func32 (by kernel_rfl) (by kernel_rfl) (by kernel_rfl) (e := Extern.SlicesOverlaps.overlaps #[22, 22] #[4]) (by kernel_rfl), show slOff (some ⟨g, 0, none⟩) c ((i + 1)) 2 = some ⟨g, (i + 1) * 2, none⟩ from slOff_lt (by omega), ov_false (T := 22) (bytes := 16) hp45 (by omega) (by decide) (by kernel_rfl)]; rfl
      refine OPS.cons (opStep.callX (some 67) [.slice (some ⟨vb, 0, none⟩) 1 1, .slice (slOff (some ⟨g, 0, none⟩) c ((i + 1)) 2) ((n + 1) - (i + 1)) (c - (i + 1))] rfl rfl hov50 ?_)
      refine OPS.batch 1 {} [] [0, 1, 2, 7, 8, 68] [.slice (some ⟨g, 0, none⟩) (n + 1) c, .int .i64 ((i : Nat) : Int), .slice (some ⟨vb, 0, none⟩) 1 1, .int .i64 1, .int .i64 ((n : Nat) : Int), .bool true] .nil (by kernel_rfl) (fun b51 => ?_)
      refine OPS.nil ?_
      refine thn_n ?_
      refine WP.condT rfl ?_
      refine WP.seq ?_
      have hp52 := hp45.drew
      refine WP.held (fun w53 => True) [] [(0, true), (1, true), (2, true), (3, true), (4, true), (5, true), (6, true), (7, true), (8, false)] (np_thn (np_thn np_body)) (by kernel_rfl) ?_
      refine HOPS.take 8 { subs := [72] } [.int .i64 ((i + 1 : Nat) : Int)] [0, 1, 2, 73, 76] [.slice (some ⟨g, 0, none⟩) (n + 1) c, .int .i64 ((i : Nat) : Int), .slice (some ⟨vb, 0, none⟩) 1 1, .slice (slOff (some ⟨g, 0, none⟩) c ((i + 1)) 2) ((n + 1) - (i + 1)) (c - (i + 1)), .slice (slOff (some ⟨g, 0, none⟩) c (i) 2) ((n + 1) - i) (c - i)] (by kernel_rfl) trivial (fun w54 hS55 => QB.mk (.cons (show Rng .i64 (((i : Nat) : Int) + 1) from Rng.i64 (by omega)) (.cons (show (.int .i64 (((i : Nat) : Int) + 1) : Go.Value) = .int .i64 ((i + 1 : Nat) : Int) from congrArg (Value.int .i64) ((show ((i : Nat) : Int) + 1 = ((i + 1 : Nat) : Int) by omega))) (.cons (show (0 : Int) ≤ ((i + 1 : Nat) : Int) ∧ ((i + 1 : Nat) : Int) ≤ (((n + 1) : Nat) : Int) from ⟨by omega, by omega⟩) (.cons (show (0 : Int) ≤ ((i : Nat) : Int) ∧ ((i : Nat) : Int) ≤ (((n + 1) : Nat) : Int) from ⟨by omega, by omega⟩) .nil)))) (by kernel_rfl)) (fun b56 => ?_)
      refine HOPS.eff _ rfl (opStep.copyO (bytes := 16) (A := []) (p := (i + 1) * 2) (k := (n - i)) (vs := (List.flatMap GTag.cells (List.drop i xs))) hp52 (by kernel_rfl) rfl rfl (slOff_lt (by omega)) (slOff_lt (by omega)) (by show min _ _ = _; omega) (by rw [flat_len (sz := 2) (fun _ => rfl), List.length_drop, hlx]) (rd_drop (f := GTag.cells) (sz := 2) (i := i) (fun _ => rfl) (by have h_ := SlR.own hp52.get0; exact h_.rd) (by omega)) (one_flat (fun _ => rfl)) (by have h_ : ((List.flatMap GTag.cells (List.drop i xs))).length = (n - i) * 2 := (by rw [flat_len (sz := 2) (fun _ => rfl), List.length_drop, hlx]); omega) (fun w59 hp60 => ?_))
      simp only [List.cons_append, List.nil_append] at hp60
      refine ⟨.inr trivial, ?_⟩
      refine HOPS.nil ?_
      refine thn_n ?_
      refine WP.seq ?_
      refine WP.region _ rfl (by kernel_rfl) ?_
      refine OPS.batch 4 {} [] [0, 80, 81] [.slice (some ⟨g, 0, none⟩) (n + 1) c, .slice (slOff (some ⟨g, 0, none⟩) c (i) 2) ((n + 1) - i) (c - i), .slice (some ⟨vb, 0, none⟩) 1 1] (.cons (show (0 : Int) ≤ ((i : Nat) : Int) ∧ ((i : Nat) : Int) ≤ (((n + 1) : Nat) : Int) from ⟨by omega, by omega⟩) .nil) (by kernel_rfl) (fun b61 => ?_)
      refine OPS.cons (opStep.copyO (bytes := 16) (A := []) (p := i * 2) (k := 1) (vs := (GTag.cells t)) hp60 (by kernel_rfl) rfl rfl (slOff_lt (by omega)) rfl (by show min _ _ = _; omega) rfl (SlR.row (n := 1) hp60.get1 rfl).rd (List.all_eq_true.1 (by kernel_rfl)) (by have h_ : ((GTag.cells t)).length = 1 * 2 := rfl; omega) (fun w64 hp65 => ?_))
      simp only [List.cons_append, List.nil_append] at hp65
      refine OPS.nil ?_
      refine thn_n ?_
      refine WP.seq ?_
      refine WP.pure {} [] [6] [.slice (some ⟨g, 0, none⟩) (n + 1) c] .nil (by kernel_rfl) (fun b66 => ?_)
      refine thn_n ?_
      refine WP.ret ?_
      refine thn_r ?_
      refine bodyQ.of _ rfl [.slice (some ⟨g, 0, none⟩) (n + 1) c] ⟨rfl, trivial⟩ ?_
      have h_ := hp65
      rw [ow_ins (f := GTag.cells) (sz := 2) (fun _ => rfl) (by omega) t hys] at h_
      refine ⟨_, _, ?_, h_⟩
      · rfl

end Go.Proofs.Ytoeholipggkcaaa.K
