/- The walks of QuoL: what each function computes. -/
import Derived.Test.YtgpjpcemfaignaaProg
import Derived.Test.YtgpjpcemfaignaaCoreO
import Derived.Test.YtgpjpcemfaignaaQuoI
import Derived.Test.YtgpjpcemfaignaaBitz
namespace Go.Proofs.Ytgpjpcemfaignaa.K
open Go Go.Proofs Go.RowKit
set_option linter.unusedVariables false
set_option linter.unusedSimpArgs false
set_option maxRecDepth 20000
set_option maxHeartbeats 4000000

def ints (l : List Nat) : List Int := l.map fun (x : Nat) => (x : Int)
theorem ints_len (l : List Nat) : (ints l).length = l.length := by simp [ints]
theorem ints_flat (l : List Nat) : List.flatMap (fun (y : Int) => [Go.Value.int .i64 y]) (ints l) = List.flatMap (fun (y : Nat) => [Go.Value.int .i64 (y : Int)]) l := by
  induction l with
  | nil => rfl
  | cons x l ih => simp only [ints, List.map_cons, List.flatMap_cons] at ih ⊢; rw [ih]
theorem slr_ints {w : World} {a : Option Addr} {n : Nat} {l : List Nat} (h : SlR w a n (List.flatMap (fun (y : Nat) => [Go.Value.int .i64 (y : Int)]) l)) : SlR w a n (List.flatMap (fun (y : Int) => [Go.Value.int .i64 y]) (ints l)) := by rw [ints_flat]; exact h
theorem ints_inj {l m : List Nat} : ints l = ints m ↔ l = m := by
  constructor
  · intro h
    induction l generalizing m with
    | nil => cases m with
      | nil => rfl
      | cons y m => simp [ints] at h
    | cons x l ih => cases m with
      | nil => simp [ints] at h
      | cons y m =>
        simp only [ints, List.map_cons, List.cons.injEq] at h
        have h1 : x = y := by omega
        rw [h1, ih h.2]
  · rintro rfl; rfl

theorem q_Rest (w0 : World) (L : List Res) (b : Nat) (c : GConfig) (m : Nat) (w : World) (hok : okCfg c) (hp0 : Hp w0 Non (Res.row b [.int .i64 c.N, .int .i64 c.K, .int .i64 c.Delta, .int .u64 ((wd m 0 : Nat) : Int), .int .u64 ((wd m 1 : Nat) : Int), .int .u64 ((wd m 2 : Nat) : Int), .int .u64 ((wd m 3 : Nat) : Int)] 89 :: L) w) :
    Calls Try.prog 18 #[.pointer (some ⟨b, 0, none⟩)] w (fun r_ w' => ∃ ao co, r_ = .returned (.slice ao (sel m false c.N.toNat).length co) ∧ Hp w0 Non (Res.own 3 1 (.slice ao (sel m false c.N.toNat).length co) (sel m false c.N.toNat).length (List.flatMap (fun (y : Nat) => [Go.Value.int .i64 (y : Int)]) (sel m false c.N.toNat)) :: Res.row b [.int .i64 c.N, .int .i64 c.K, .int .i64 c.Delta, .int .u64 ((wd m 0 : Nat) : Int), .int .u64 ((wd m 1 : Nat) : Int), .int .u64 ((wd m 2 : Nat) : Int), .int .u64 ((wd m 3 : Nat) : Int)] 89 :: L) w') := by
  have hok1 := hok
  unfold okCfg at hok1
  refine calls_of Try.func18 rfl 5 rfl (by simp) ?_
  have he0 : List.map (env0 [.pointer (some ⟨b, 0, none⟩)]) [0] = [.pointer (some ⟨b, 0, none⟩)] := by kernel_rfl
  obtain ⟨b0, he0⟩ := toMk he0
  rw [he0]
  clear he0
  refine WP.seq ?_
  refine WP.pure {} [] [0] [.pointer (some ⟨b, 0, none⟩)] .nil (by kernel_rfl) (fun b1 => ?_)
  refine thn_n ?_
  refine WP.seq ?_
  refine WP.region _ rfl (by kernel_rfl) ?_
  refine OPS.batch 1 {} [] [3] [.pointer (some ⟨b, 0, none⟩)] .nil (by kernel_rfl) (fun b2 => ?_)
  have hp5 := hp0.pull0
  refine OPS.cons (opStep.call (some 4) [.pointer (some ⟨b, 0, none⟩), .bool false] (by kernel_rfl) (q_those _ _ _ c m _ hok false hp5) ?_)
  rintro _ w6 ⟨ao8, co9, rfl, hp7⟩
  refine ⟨_, rfl, ?_⟩
  have := sel_le m false (c.N).toNat
  refine OPS.batch 1 {} [] [2] [.slice ao8 ((sel m false (c.N).toNat).length) co9] .nil (by kernel_rfl) (fun b10 => ?_)
  refine OPS.nil ?_
  refine thn_n ?_
  refine WP.ret ?_
  refine bodyQ.of _ rfl [.slice ao8 ((sel m false (c.N).toNat).length) co9] ⟨rfl, trivial⟩ ?_
  exact ⟨ao8, co9, rfl, hp7⟩

theorem q_New (c : GConfig) (w : World) (hok : okCfg c) :
    Calls Try.prog 12 #[GConfig.val c] w (fun r_ w' => ∃ b, r_ = .returned (.tuple #[.pointer (some ⟨b, 0, none⟩), .int .i64 0]) ∧ Hp w Non [Res.row b [.int .i64 c.N, .int .i64 c.K, .int .i64 c.Delta, .int .u64 ((wd 0 0 : Nat) : Int), .int .u64 ((wd 0 1 : Nat) : Int), .int .u64 ((wd 0 2 : Nat) : Int), .int .u64 ((wd 0 3 : Nat) : Int)] 89] w') := by
  have hz := qChk_ok hok
  refine calls_of Try.func12 rfl 10 rfl (by simp) ?_
  have hp0 := Hp.init w
  have he0 : List.map (env0 [GConfig.val c]) [0] = [GConfig.val c] := by kernel_rfl
  obtain ⟨b0, he0⟩ := toMk he0
  rw [he0]
  clear he0
  refine WP.seq ?_
  refine WP.region _ rfl (by kernel_rfl) ?_
  refine OPS.cons (opStep.box hp0 [.int .i64 c.N, .int .i64 c.K, .int .i64 c.Delta] (by kernel_rfl) (fun g3 w1 hp2 => ?_))
  refine OPS.batch 2 {} [] [1] [.pointer (some ⟨g3, 0, none⟩)] .nil (by kernel_rfl) (fun b4 => ?_)
  refine OPS.nil ?_
  refine thn_n ?_
  refine WP.seq ?_
  refine WP.seq ?_
  refine WP.region _ rfl (by kernel_rfl) ?_
  refine OPS.batch 1 {} [GConfig.val c] [1, 4] [.pointer (some ⟨g3, 0, none⟩), GConfig.val c] (.cons (show Ld Try.prog w1 23 ⟨g3, 0, none⟩ (GConfig.val c) from Ld.rowN (cs := [.int .i64 c.N, .int .i64 c.K, .int .i64 c.Delta]) hp2.get0 (by kernel_rfl)) .nil) (by kernel_rfl) (fun b5 => ?_)
  refine OPS.cons (opStep.call (some 5) [GConfig.val c] (by kernel_rfl) (q_Check c _) ?_)
  rintro _ w8 ⟨rfl, hf9⟩
  refine ⟨_, rfl, ?_⟩
  have hp10 := hp2.step hf9
  refine OPS.batch 1 {} [] [1, 6] [.pointer (some ⟨g3, 0, none⟩), .bool (decide (¬ ((qChk c) = 0)))] .nil (by kernel_rfl) (fun b11 => ?_)
  refine OPS.nil ?_
  refine thn_n ?_
  refine WP.test (p := ¬ ((qChk c) = 0)) rfl Bp.dec (fun h12 => ?_) (fun h12 => ?_)
  · refine WP.seq ?_
    refine WP.pure {} [] [2, 3] [.pointer none, .int .i64 40] .nil (by kernel_rfl) (fun b13 => ?_)
    refine thn_n ?_
    refine WP.ret ?_
    refine thn_r ?_
    refine bodyQ.of _ rfl [.pointer none, .int .i64 40] ⟨rfl, rfl, trivial⟩ ?_
    exfalso
    rw [hz] at h12
    exact absurd rfl h12
  · replace h12 := Classical.not_not.1 h12
    refine WP.skip ?_
    refine thn_n ?_
    refine WP.seq ?_
    refine WP.region _ rfl (by kernel_rfl) ?_
    refine OPS.batch 2 {} [GConfig.val c] [8] [.agg #[.int .i64 c.N, .int .i64 c.K, .int .i64 c.Delta, .int .u64 0, .int .u64 0, .int .u64 0, .int .u64 0]] (.cons (show Ld Try.prog w8 23 ⟨g3, 0, none⟩ (GConfig.val c) from Ld.rowN (cs := [.int .i64 c.N, .int .i64 c.K, .int .i64 c.Delta]) hp10.get0 (by kernel_rfl)) .nil) (by kernel_rfl) (fun b14 => ?_)
    refine OPS.cons (opStep.box hp10 [.int .i64 c.N, .int .i64 c.K, .int .i64 c.Delta, .int .u64 0, .int .u64 0, .int .u64 0, .int .u64 0] (by kernel_rfl) (fun g17 w15 hp16 => ?_))
    refine OPS.batch 2 {} [] [2, 3] [.pointer (some ⟨g17, 0, none⟩), .int .i64 0] .nil (by kernel_rfl) (fun b18 => ?_)
    refine OPS.nil ?_
    refine thn_n ?_
    refine WP.ret ?_
    refine bodyQ.of _ rfl [.pointer (some ⟨g17, 0, none⟩), .int .i64 0] ⟨rfl, rfl, trivial⟩ ?_
    exact ⟨_, rfl, (hp16.sub (.cons_cons _ (.cons _ (.slnil))))⟩

end Go.Proofs.Ytgpjpcemfaignaa.K
