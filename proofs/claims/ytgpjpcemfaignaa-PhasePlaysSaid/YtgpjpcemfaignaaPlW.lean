/- The walks of PlW: what each function computes. -/
import Derived.Test.YtgpjpcemfaignaaProg
import Derived.Test.YtgpjpcemfaignaaCoreO
import Derived.Test.YtgpjpcemfaignaaPlP
namespace Go.Proofs.Ytgpjpcemfaignaa.K
open Go Go.Proofs Go.RowKit
set_option linter.unusedVariables false
set_option linter.unusedSimpArgs false
set_option maxRecDepth 20000
set_option maxHeartbeats 4000000

structure Gsherdlaw17_Op where
  Kind : Int
  P : Int
  Server : Int
  V : Int
  N : Int
def Gsherdlaw17_Op.cells (x : Gsherdlaw17_Op) : List Go.Value := [.int .i64 x.Kind, .int .i64 x.P, .int .i64 x.Server, .int .i64 x.V, .int .i64 x.N]
def Gsherdlaw17_Op.val (x : Gsherdlaw17_Op) : Go.Value := .agg x.cells.toArray
instance : Inhabited Gsherdlaw17_Op := ⟨⟨0, 0, 0, 0, 0⟩⟩
theorem Gsherdlaw17_Op.len (x : Gsherdlaw17_Op) : x.cells.length = 5 := rfl
theorem w17_wanted (w0 : World) (L : List Res) (rb : Nat) (c : GConfig) (aC : Option Addr) (kC : Nat) (aL : Option Addr) (kL : Nat) (cs : List Bool) (ls : List Int) (w : World) (hcl : cs.length = c.N.toNat) (hll : ls.length = c.N.toNat) (o : Gsherdlaw17_Op) (hN : c.N ≤ 255) (hp0 : Hp w0 Non (Res.row rb [.int .i64 c.N, .int .i64 c.K, .int .i64 c.Delta, .slice aC c.N.toNat kC, .slice aL c.N.toNat kL] 95 :: Res.own 4 1 (.slice aC c.N.toNat kC) c.N.toNat (List.flatMap (fun (y : Bool) => [Go.Value.bool y]) cs) :: Res.own 3 1 (.slice aL c.N.toNat kL) c.N.toNat (List.flatMap (fun (y : Int) => [Go.Value.int .i64 y]) ls) :: L) w) :
    Calls Try.prog 56 #[.pointer (some ⟨rb, 0, none⟩), Gsherdlaw17_Op.val o] w (fun r_ w' => ∃ ao co, r_ = .returned (.slice ao (wantP ls (servQ cs true) o.N).length co) ∧ Hp w0 Non (Res.own 3 1 (.slice ao (wantP ls (servQ cs true) o.N).length co) (wantP ls (servQ cs true) o.N).length (List.flatMap (fun (y : Int) => [Go.Value.int .i64 y]) (wantP ls (servQ cs true) o.N)) :: Res.row rb [.int .i64 c.N, .int .i64 c.K, .int .i64 c.Delta, .slice aC c.N.toNat kC, .slice aL c.N.toNat kL] 95 :: Res.own 4 1 (.slice aC c.N.toNat kC) c.N.toNat (List.flatMap (fun (y : Bool) => [Go.Value.bool y]) (eachC c cs o.V)) :: Res.own 3 1 (.slice aL c.N.toNat kL) c.N.toNat (List.flatMap (fun (y : Int) => [Go.Value.int .i64 y]) (eachI c cs ls o.V)) :: L) w') := by
  have hcN : c.N.toNat ≤ 255 := by omega
  refine calls_of Try.func56 rfl 53 rfl (by simp) ?_
  have he0 : List.map (env0 [.pointer (some ⟨rb, 0, none⟩), Gsherdlaw17_Op.val o]) [0, 1] = [.pointer (some ⟨rb, 0, none⟩), Gsherdlaw17_Op.val o] := by kernel_rfl
  obtain ⟨b0, he0⟩ := toMk he0
  rw [he0]
  clear he0
  refine WP.seq ?_
  refine WP.region _ rfl (by kernel_rfl) ?_
  refine OPS.cons (opStep.box hp0 [.int .i64 o.Kind, .int .i64 o.P, .int .i64 o.Server, .int .i64 o.V, .int .i64 o.N] (by kernel_rfl) (fun g3 w1 hp2 => ?_))
  refine OPS.batch 1 {} [] [0, 3] [.pointer (some ⟨rb, 0, none⟩), .pointer (some ⟨g3, 0, none⟩)] .nil (by kernel_rfl) (fun b4 => ?_)
  refine OPS.nil ?_
  refine thn_n ?_
  refine WP.seq ?_
  refine WP.pure {} [] [0, 3, 5] [.pointer (some ⟨rb, 0, none⟩), .pointer (some ⟨g3, 0, none⟩), .slice none 0 0] .nil (by kernel_rfl) (fun b5 => ?_)
  refine thn_n ?_
  refine WP.seq ?_
  refine WP.seq ?_
  refine WP.region _ rfl (by kernel_rfl) ?_
  refine OPS.batch 1 {} [] [0, 3, 5, 10] [.pointer (some ⟨rb, 0, none⟩), .pointer (some ⟨g3, 0, none⟩), .slice none 0 0, .pointer (some ⟨rb, 0, none⟩)] .nil (by kernel_rfl) (fun b6 => ?_)
  have hp9 := hp2.pull3
  have hp10 := hp9.pull3
  have hp11 := hp10.pull3
  refine OPS.cons (opStep.call (some 11) [.pointer (some ⟨rb, 0, none⟩), .bool true] (by kernel_rfl) (r17_Servers _ _ _ c _ _ _ _ cs ls _ hcl hll true (by omega) hp11) ?_)
  rintro _ w12 ⟨a14, c15, rfl, hp13⟩
  refine ⟨_, rfl, ?_⟩
  have hp17 := hp13
  rw [show List.flatMap (fun (y : Nat) => [Go.Value.int .i64 (y : Int)]) (servQ cs true) = List.flatMap (fun (y : Int) => [Go.Value.int .i64 y]) ((servQ cs true).map (fun (y : Nat) => (y : Int))) from flat_natI _] at hp17
  refine OPS.batch 2 {} [] [0, 3, 5, 11, 12, 13] [.pointer (some ⟨rb, 0, none⟩), .pointer (some ⟨g3, 0, none⟩), .slice none 0 0, .slice a14 ((servQ cs true).length) c15, .int .i64 (((servQ cs true).length : Nat) : Int), .int .i64 0] .nil (by kernel_rfl) (fun b18 => ?_)
  refine OPS.nil ?_
  refine thn_n ?_
  refine WP.block ?_
  obtain ⟨zs, hzs⟩ : ∃ zs, zs = (servQ cs true).map (fun (y : Nat) => (y : Int)) := ⟨_, rfl⟩
  have hzl := zs_len hzs
  have hp19 := hp17
  rw [← hzs] at hp19
  have hp20 := (show Hp w0 Non (Res.own 3 1 (.slice none 0 0) 0 (List.flatMap (fun (y : Int) => [Go.Value.int .i64 y]) ([] : List Int)) :: Res.own 3 1 (.slice a14 ((servQ cs true).length) c15) ((servQ cs true).length) (List.flatMap (fun (y : Int) => [Go.Value.int .i64 y]) zs) :: Res.row rb [.int .i64 c.N, .int .i64 c.K, .int .i64 c.Delta, .slice aC c.N.toNat kC, .slice aL c.N.toNat kL] 95 :: Res.own 4 1 (.slice aC c.N.toNat kC) c.N.toNat (List.flatMap (fun (y : Bool) => [Go.Value.bool y]) cs) :: Res.own 3 1 (.slice aL c.N.toNat kL) c.N.toNat (List.flatMap (fun (y : Int) => [Go.Value.int .i64 y]) ls) :: Res.row g3 [.int .i64 o.Kind, .int .i64 o.P, .int .i64 o.Server, .int .i64 o.V, .int .i64 o.N] 52 :: L) w12 from hp19.nilOwn 3 1)
  refine WP.loop (fun mz_ e22 w23 => ∃ (k : Nat) (xs : List Int) (ao : Option Addr) (no : Nat) (co : Nat), mz_ = zs.length - k ∧ (k ≤ zs.length ∧ xs = flatP ls ((servQ cs true).take k)) ∧ List.map e22 [0, 3, 5, 11, 12, 13] = [.pointer (some ⟨rb, 0, none⟩), .pointer (some ⟨g3, 0, none⟩), .slice ao no co, .slice a14 ((servQ cs true).length) c15, .int .i64 (((servQ cs true).length : Nat) : Int), .int .i64 (k : Int)] ∧ Hp w0 Non (Res.own 3 1 (.slice ao no co) no (List.flatMap (fun (y : Int) => [Go.Value.int .i64 y]) xs) :: Res.own 3 1 (.slice a14 ((servQ cs true).length) c15) ((servQ cs true).length) (List.flatMap (fun (y : Int) => [Go.Value.int .i64 y]) zs) :: Res.row rb [.int .i64 c.N, .int .i64 c.K, .int .i64 c.Delta, .slice aC c.N.toNat kC, .slice aL c.N.toNat kL] 95 :: Res.own 4 1 (.slice aC c.N.toNat kC) c.N.toNat (List.flatMap (fun (y : Bool) => [Go.Value.bool y]) cs) :: Res.own 3 1 (.slice aL c.N.toNat kL) c.N.toNat (List.flatMap (fun (y : Int) => [Go.Value.int .i64 y]) ls) :: Res.row g3 [.int .i64 o.Kind, .int .i64 o.P, .int .i64 o.Server, .int .i64 o.V, .int .i64 o.N] 52 :: L) w23) (zs.length - (0)) ⟨0, [], none, 0, 0, rfl, ⟨by omega, rfl⟩, by kernel_rfl, hp20⟩ ?_
  rintro _ e22 w23 ⟨k, xs, ao, no, co, rfl, hI25, hE26, hp24⟩
  obtain ⟨b27, rfl⟩ := toMk hE26
  clear hE26
  obtain ⟨pa, pb⟩ := hI25
  have pe := own_flat (sz := 1) (fun _ => rfl) (by decide) hp24.get0
  have pl := flatP_len ls ((servQ cs true).take k)
  rw [← pb, List.length_take] at pl
  have ptd : ((no : Nat) : Int).tdiv 2 = ((no : Nat) : Int) / 2 := Int.tdiv_eq_ediv_of_nonneg (by omega)
  have psv := servT_le cs true cs.length
  have psq : servT cs true cs.length = servQ cs true := rfl
  rw [psq] at psv
  refine WP.seq ?_
  refine WP.pure {} [] [0, 3, 5, 11, 12, 13, 14] [.pointer (some ⟨rb, 0, none⟩), .pointer (some ⟨g3, 0, none⟩), .slice ao no co, .slice a14 ((servQ cs true).length) c15, .int .i64 (((servQ cs true).length : Nat) : Int), .int .i64 (k : Int), .bool (decide ((k : Int) < (((servQ cs true).length : Nat) : Int)))] .nil (by kernel_rfl) (fun b28 => ?_)
  refine thn_n ?_
  refine WP.seq ?_
  refine WP.test (p := (k : Int) < (((servQ cs true).length : Nat) : Int)) rfl Bp.dec (fun h29 => ?_) (fun h29 => ?_)
  · refine WP.skip ?_
    refine thn_n ?_
    refine WP.seq ?_
    refine WP.block ?_
    refine WP.seq ?_
    have := own_flat (sz := 1) (fun _ => rfl) (by decide) hp24.get1
    have hy31 : (zs)[k]? = some zs[k]! := get_bang (by first | (omega) | (simp only [List.length_append, List.length_cons, List.length_nil]; omega) | (simp only [List.length_take, List.length_append, List.length_cons, List.length_nil]; omega))
    refine WP.pure {} [.int .i64 (zs[k]!)] [0, 3, 5, 7, 11, 12, 13] [.pointer (some ⟨rb, 0, none⟩), .pointer (some ⟨g3, 0, none⟩), .slice ao no co, .int .i64 (zs[k]!), .slice a14 ((servQ cs true).length) c15, .int .i64 (((servQ cs true).length : Nat) : Int), .int .i64 (k : Int)] (.cons (show InB ((k : Int)) ((servQ cs true).length) from ⟨by omega, by omega⟩) (.cons ((SlR.own (hp24.get1)).some (by omega)) (.cons (Ld.add0 (Ld.el1 (P := Try.prog) (t := 3) (SlR.own (hp24.get1)).rd 1 (fun _ => rfl) hy31 (o := 0) (v := .int .i64 (zs[k]!)) (by kernel_rfl))) .nil))) (by kernel_rfl) (fun b32 => ?_)
    refine thn_n ?_
    refine WP.seq ?_
    refine WP.region _ rfl (by kernel_rfl) ?_
    refine OPS.batch 2 {} [] [0, 3, 5, 7, 11, 12, 13, 18, 19] [.pointer (some ⟨rb, 0, none⟩), .pointer (some ⟨g3, 0, none⟩), .slice ao no co, .int .i64 (zs[k]!), .slice a14 ((servQ cs true).length) c15, .int .i64 (((servQ cs true).length : Nat) : Int), .int .i64 (k : Int), .pointer (some ⟨rb, 0, none⟩), .int .i64 (zs[k]!)] .nil (by kernel_rfl) (fun b33 => ?_)
    have hp36 := hp24.pull4
    have hp37 := hp36.pull4
    have hp38 := hp37.pull4
    refine OPS.cons (opStep.call (some 20) [.pointer (some ⟨rb, 0, none⟩), .int .i64 (zs[k]!)] (by kernel_rfl) (r17_Get _ _ _ c _ _ _ _ cs ls _ hcl hll (zs[k]!) hp38) ?_)
    rintro _ w39 ⟨b41, rfl, hb42, hp40⟩
    refine ⟨_, rfl, ?_⟩
    refine OPS.batch 5 {} [] [0, 3, 5, 7, 8, 11, 12, 13] [.pointer (some ⟨rb, 0, none⟩), .pointer (some ⟨g3, 0, none⟩), .slice ao no co, .int .i64 (zs[k]!), .int .i64 (getI c cs ls (zs[k]!)), .slice a14 ((servQ cs true).length) c15, .int .i64 (((servQ cs true).length : Nat) : Int), .int .i64 (k : Int)] .nil (by kernel_rfl) (fun b43 => ?_)
    refine OPS.nil ?_
    refine thn_n ?_
    refine WP.region _ rfl (by kernel_rfl) ?_
    refine OPS.batch 3 {} [] [0, 3, 11, 12, 13, 23, 24, 25] [.pointer (some ⟨rb, 0, none⟩), .pointer (some ⟨g3, 0, none⟩), .slice a14 ((servQ cs true).length) c15, .int .i64 (((servQ cs true).length : Nat) : Int), .int .i64 (k : Int), .slice ao no co, .int .i64 (zs[k]!), .int .i64 (getI c cs ls (zs[k]!))] .nil (by kernel_rfl) (fun b44 => ?_)
    refine OPS.cons (opStep.buildSlice (E := 3) hp40 [.int .i64 (zs[k]!), .int .i64 (getI c cs ls (zs[k]!))] (by kernel_rfl) (fun g47 w45 hp46 => ?_))
    refine OPS.cons (opStep.append4 [.int .i64 (zs[k]!), .int .i64 (getI c cs ls (zs[k]!))] hp46 8 (by kernel_rfl) rfl rfl rfl (SlR.row (n := 2) hp46.get0 rfl).rd (List.all_eq_true.1 (by kernel_rfl)) (by decide) (by omega) (by omega) (fun a50 c51 w52 hp53 hn54 => ?_))
    rw [(show List.flatMap (fun (y : Int) => [Go.Value.int .i64 y]) xs ++ [.int .i64 (zs[k]!), .int .i64 (getI c cs ls (zs[k]!))] = List.flatMap (fun (y : Int) => [Go.Value.int .i64 y]) (xs ++ [zs[k]!, getI c cs ls (zs[k]!)]) from (List.flatMap_append (xs := xs) (ys := [zs[k]!, getI c cs ls (zs[k]!)])).symm)] at hp53
    refine OPS.batch 1 {} [] [0, 3, 5, 11, 12, 13] [.pointer (some ⟨rb, 0, none⟩), .pointer (some ⟨g3, 0, none⟩), .slice a50 (no + 2) c51, .slice a14 ((servQ cs true).length) c15, .int .i64 (((servQ cs true).length : Nat) : Int), .int .i64 (k : Int)] .nil (by kernel_rfl) (fun b55 => ?_)
    refine OPS.nil ?_
    refine blk_n ?_
    refine thn_n ?_
    refine WP.pure {} [] [0, 3, 5, 11, 12, 13] [.pointer (some ⟨rb, 0, none⟩), .pointer (some ⟨g3, 0, none⟩), .slice a50 (no + 2) c51, .slice a14 ((servQ cs true).length) c15, .int .i64 (((servQ cs true).length : Nat) : Int), .int .i64 ((k : Int) + 1)] (.cons (show Rng .i64 ((k : Int) + 1) from Rng.i64 (by omega)) .nil) (by kernel_rfl) (fun b56 => ?_)
    refine thn_n ?_
    exact ⟨zs.length - (k + 1), (by omega), k + 1, xs ++ [zs[k]!, getI c cs ls (zs[k]!)], a50, no + 2, c51, rfl, ⟨by omega, want_step hcl hzs (by omega) pb⟩, by kernel_rfl, (((((((hp53.pull6).pull4).pull4).pull4).pull6).pull6).sub (.cons_cons _ (.cons_cons _ (.cons_cons _ (.cons_cons _ (.cons_cons _ (.cons_cons _ (.cons _ (.refl _)))))))))⟩
  · refine WP.exit ?_
    refine thn_x ?_
    refine thn_x ?_
    refine blk_hit ?_
    refine thn_n ?_
    refine WP.seq ?_
    refine WP.seq ?_
    refine WP.pure {} [] [0, 3, 5, 31] [.pointer (some ⟨rb, 0, none⟩), .pointer (some ⟨g3, 0, none⟩), .slice ao no co, .bool (decide (0 < ((no : Nat) : Int)))] .nil (by kernel_rfl) (fun b57 => ?_)
    refine thn_n ?_
    refine WP.test (p := 0 < ((no : Nat) : Int)) rfl Bp.dec (fun h58 => ?_) (fun h58 => ?_)
    · refine WP.region _ rfl (by kernel_rfl) ?_
      refine OPS.batch 3 {} [.int .i64 o.V] [3, 5, 32, 34] [.pointer (some ⟨g3, 0, none⟩), .slice ao no co, .pointer (some ⟨rb, 0, none⟩), .int .i64 o.V] (.cons (Ld.row1 (P := Try.prog) (t := 3) (o := 3) (v := .int .i64 o.V) hp24.get5 (by kernel_rfl)) .nil) (by kernel_rfl) (fun b59 => ?_)
      have hp62 := hp24.pull4
      have hp63 := hp62.pull4
      have hp64 := hp63.pull4
      refine OPS.cons (opStep.call (some 35) [.pointer (some ⟨rb, 0, none⟩), .int .i64 o.V, .int .i64 4444] (by kernel_rfl) (r17_Answer _ _ _ c _ _ _ _ cs ls _ hcl hll o.V 4444 hp64) ?_)
      rintro _ w65 ⟨b67, rfl, hb68, hp66⟩
      refine ⟨_, rfl, ?_⟩
      refine OPS.nil ?_
      refine thn_n ?_
      refine WP.seq ?_
      refine WP.cut (fun e78 w79 => ∃ (x76 : Bool), (True) ∧ Bp x76 ((0 < o.N) ∧ (o.N < (((no : Nat) : Int).tdiv 2))) ∧ List.map e78 [3, 5, 46] = [.pointer (some ⟨g3, 0, none⟩), .slice ao no co, .bool x76] ∧ Hp w0 Non (Res.row rb [.int .i64 c.N, .int .i64 c.K, .int .i64 c.Delta, .slice aC c.N.toNat kC, .slice aL c.N.toNat kL] 95 :: Res.own 4 1 (.slice aC c.N.toNat kC) c.N.toNat (List.flatMap (fun (y : Bool) => [Go.Value.bool y]) (ansC c cs o.V)) :: Res.own 3 1 (.slice aL c.N.toNat kL) c.N.toNat (List.flatMap (fun (y : Int) => [Go.Value.int .i64 y]) (ansI c ls o.V 4444)) :: Res.own 3 1 (.slice ao no co) no (List.flatMap (fun (y : Int) => [Go.Value.int .i64 y]) xs) :: Res.own 3 1 (.slice a14 ((servQ cs true).length) c15) ((servQ cs true).length) (List.flatMap (fun (y : Int) => [Go.Value.int .i64 y]) zs) :: Res.row g3 [.int .i64 o.Kind, .int .i64 o.P, .int .i64 o.Server, .int .i64 o.V, .int .i64 o.N] 52 :: L) w79) ?_ ?_
      · refine WP.region _ rfl (by kernel_rfl) ?_
        refine OPS.batch 4 {} [.int .i64 o.N] [3, 5, 39] [.pointer (some ⟨g3, 0, none⟩), .slice ao no co, .bool (decide (0 < o.N))] (.cons (Ld.row1 (P := Try.prog) (t := 3) (o := 4) (v := .int .i64 o.N) hp66.get5 (by kernel_rfl)) .nil) (by kernel_rfl) (fun b70 => ?_)
        by_cases h71 : 0 < o.N
        · refine OPS.batch 0 {} [] [3, 5, 39] [.pointer (some ⟨g3, 0, none⟩), .slice ao no co, .bool (decide (0 < o.N))] .nil (by kernel_rfl) (fun b72 => ?_)
          refine OPS.re [.pointer (some ⟨g3, 0, none⟩), .slice ao no co, .bool true] (by rw [show (decide (0 < o.N)) = true from Bp.dec.tt h71]) ?_
          refine OPS.batch 7 { wraps := [46] } [.int .i64 o.N] [3, 5, 46] [.pointer (some ⟨g3, 0, none⟩), .slice ao no co, .bool (decide (o.N < (((no : Nat) : Int).tdiv 2)))] (.cons (Ld.row1 (P := Try.prog) (t := 3) (o := 4) (v := .int .i64 o.N) hp66.get5 (by kernel_rfl)) (.cons (show (2 : Int) ≠ 0 from by omega) (.cons (show Rng .i64 (((no : Nat) : Int).tdiv 2) from Rng.i64 (by omega)) .nil))) (by kernel_rfl) (fun b73 => ?_)
          refine OPS.nil ?_
          refine thn_n ?_
          exact ⟨decide (o.N < (((no : Nat) : Int).tdiv 2)), trivial, Bp.of Bp.dec (by first | (simp only [h71, iff_false, false_iff, iff_true, true_iff, Classical.not_not, and_true, true_and, and_false, false_and, or_true, true_or, or_false, false_or, not_true_eq_false, not_false_eq_true, and_self, or_self, iff_self]; done) | (simp [h71]; done) | simp_all), by kernel_rfl, hp66⟩
        · refine OPS.batch 0 {} [] [3, 5, 39] [.pointer (some ⟨g3, 0, none⟩), .slice ao no co, .bool (decide (0 < o.N))] .nil (by kernel_rfl) (fun b74 => ?_)
          refine OPS.re [.pointer (some ⟨g3, 0, none⟩), .slice ao no co, .bool false] (by rw [show (decide (0 < o.N)) = false from Bp.dec.ff h71]) ?_
          refine OPS.batch 7 { wraps := [46] } [] [3, 5, 46] [.pointer (some ⟨g3, 0, none⟩), .slice ao no co, .bool false] .nil (by kernel_rfl) (fun b75 => ?_)
          refine OPS.nil ?_
          refine thn_n ?_
          exact ⟨false, trivial, Bp.of Bp.f (by first | (simp only [h71, iff_false, false_iff, iff_true, true_iff, Classical.not_not, and_true, true_and, and_false, false_and, or_true, true_or, or_false, false_or, not_true_eq_false, not_false_eq_true, and_self, or_self, iff_self]; done) | (simp [h71]; done) | simp_all), by kernel_rfl, hp66⟩
      rintro e78 w79 ⟨x76, hd81, hb77, hE82, hp80⟩
      obtain ⟨b83, rfl⟩ := toMk hE82
      clear hE82
      clear hd81
      refine WP.test (p := (0 < o.N) ∧ (o.N < (((no : Nat) : Int).tdiv 2))) rfl hb77 (fun h84 => ?_) (fun h84 => ?_)
      · have := own_cap hp80.get3
        refine WP.pure {} [.int .i64 o.N] [5] [.slice ao ((2 * o.N : Int).toNat) co] (.cons (Ld.row1 (P := Try.prog) (t := 3) (o := 4) (v := .int .i64 o.N) hp80.get5 (by kernel_rfl)) (.cons (show Rng .i64 (2 * o.N) from Rng.i64 (by omega)) (.cons (show 0 ≤ (2 * o.N) ∧ (2 * o.N) ≤ ((co : Nat) : Int) from ⟨by omega, by omega⟩) .nil))) (by kernel_rfl) (fun b85 => ?_)
        refine thn_n ?_
        refine WP.seq ?_
        refine WP.pure {} [] [4] [.slice ao ((2 * o.N : Int).toNat) co] .nil (by kernel_rfl) (fun b86 => ?_)
        refine thn_n ?_
        refine WP.ret ?_
        refine bodyQ.of _ rfl [.slice ao ((2 * o.N : Int).toNat) co] ⟨rfl, trivial⟩ ?_
        have hk : k = zs.length := by omega
        rw [hk, hzl, List.take_of_length_le (Nat.le_refl _)] at pb
        have hpl := flatP_len ls (servQ cs true)
        rw [← pb] at hpl
        have hq0 : ¬ servQ cs true = [] := by intro e; rw [e, List.length_nil] at hpl; omega
        have hC : eachC c cs o.V = (ansC c cs o.V) := by unfold eachC; rw [if_neg hq0]
        have hL : eachI c cs ls o.V = (ansI c ls o.V 4444) := by unfold eachI; rw [if_neg hq0]
        rw [hC, hL]
        obtain ⟨hw, hwl⟩ := want_cut (N := o.N) pb (by omega) (by omega)
        have hp87 := hp80.turn3 (Res.own 3 1 (.slice ao ((2 * o.N : Int).toNat) co) ((2 * o.N : Int).toNat) (List.flatMap (fun (y : Int) => [Go.Value.int .i64 y]) (List.take ((2 * o.N : Int).toNat) xs))) (fun hh => by rw [← flat_take (sz := 1) (fun _ => rfl)]; exact own_cut (by omega) hh) own_foot
        rw [hwl, hw]
        exact ⟨_, _, rfl, (((((hp87.pull2).pull2).pull2).pull3).sub (.cons_cons _ (.cons_cons _ (.cons_cons _ (.cons_cons _ (.cons _ (.cons _ (.refl _))))))))⟩
      · refine WP.skip ?_
        refine thn_n ?_
        refine WP.seq ?_
        refine WP.pure {} [] [4] [.slice ao no co] .nil (by kernel_rfl) (fun b88 => ?_)
        refine thn_n ?_
        refine WP.ret ?_
        refine bodyQ.of _ rfl [.slice ao no co] ⟨rfl, trivial⟩ ?_
        have hk : k = zs.length := by omega
        rw [hk, hzl, List.take_of_length_le (Nat.le_refl _)] at pb
        have hpl := flatP_len ls (servQ cs true)
        rw [← pb] at hpl
        have hq0 : ¬ servQ cs true = [] := by intro e; rw [e, List.length_nil] at hpl; omega
        have hC : eachC c cs o.V = (ansC c cs o.V) := by unfold eachC; rw [if_neg hq0]
        have hL : eachI c cs ls o.V = (ansI c ls o.V 4444) := by unfold eachI; rw [if_neg hq0]
        rw [hC, hL]
        have hw : wantP ls (servQ cs true) o.N = xs := by rw [want_all (by omega), pb]
        have pe2 := own_flat (sz := 1) (fun _ => rfl) (by decide) hp80.get3
        obtain rfl : no = xs.length := by omega
        rw [hw]
        exact ⟨_, _, rfl, (((((hp80.pull2).pull2).pull2).pull3).sub (.cons_cons _ (.cons_cons _ (.cons_cons _ (.cons_cons _ (.cons _ (.cons _ (.refl _))))))))⟩
    · refine WP.skip ?_
      refine thn_n ?_
      refine WP.seq ?_
      refine WP.cut (fun e98 w99 => ∃ (x96 : Bool), (True) ∧ Bp x96 ((0 < o.N) ∧ (o.N < (((no : Nat) : Int).tdiv 2))) ∧ List.map e98 [3, 5, 46] = [.pointer (some ⟨g3, 0, none⟩), .slice ao no co, .bool x96] ∧ Hp w0 Non (Res.own 3 1 (.slice ao no co) no (List.flatMap (fun (y : Int) => [Go.Value.int .i64 y]) xs) :: Res.own 3 1 (.slice a14 ((servQ cs true).length) c15) ((servQ cs true).length) (List.flatMap (fun (y : Int) => [Go.Value.int .i64 y]) zs) :: Res.row rb [.int .i64 c.N, .int .i64 c.K, .int .i64 c.Delta, .slice aC c.N.toNat kC, .slice aL c.N.toNat kL] 95 :: Res.own 4 1 (.slice aC c.N.toNat kC) c.N.toNat (List.flatMap (fun (y : Bool) => [Go.Value.bool y]) cs) :: Res.own 3 1 (.slice aL c.N.toNat kL) c.N.toNat (List.flatMap (fun (y : Int) => [Go.Value.int .i64 y]) ls) :: Res.row g3 [.int .i64 o.Kind, .int .i64 o.P, .int .i64 o.Server, .int .i64 o.V, .int .i64 o.N] 52 :: L) w99) ?_ ?_
      · refine WP.region _ rfl (by kernel_rfl) ?_
        refine OPS.batch 4 {} [.int .i64 o.N] [3, 5, 39] [.pointer (some ⟨g3, 0, none⟩), .slice ao no co, .bool (decide (0 < o.N))] (.cons (Ld.row1 (P := Try.prog) (t := 3) (o := 4) (v := .int .i64 o.N) hp24.get5 (by kernel_rfl)) .nil) (by kernel_rfl) (fun b90 => ?_)
        by_cases h91 : 0 < o.N
        · refine OPS.batch 0 {} [] [3, 5, 39] [.pointer (some ⟨g3, 0, none⟩), .slice ao no co, .bool (decide (0 < o.N))] .nil (by kernel_rfl) (fun b92 => ?_)
          refine OPS.re [.pointer (some ⟨g3, 0, none⟩), .slice ao no co, .bool true] (by rw [show (decide (0 < o.N)) = true from Bp.dec.tt h91]) ?_
          refine OPS.batch 7 { wraps := [46] } [.int .i64 o.N] [3, 5, 46] [.pointer (some ⟨g3, 0, none⟩), .slice ao no co, .bool (decide (o.N < (((no : Nat) : Int).tdiv 2)))] (.cons (Ld.row1 (P := Try.prog) (t := 3) (o := 4) (v := .int .i64 o.N) hp24.get5 (by kernel_rfl)) (.cons (show (2 : Int) ≠ 0 from by omega) (.cons (show Rng .i64 (((no : Nat) : Int).tdiv 2) from Rng.i64 (by omega)) .nil))) (by kernel_rfl) (fun b93 => ?_)
          refine OPS.nil ?_
          refine thn_n ?_
          exact ⟨decide (o.N < (((no : Nat) : Int).tdiv 2)), trivial, Bp.of Bp.dec (by first | (simp only [h91, iff_false, false_iff, iff_true, true_iff, Classical.not_not, and_true, true_and, and_false, false_and, or_true, true_or, or_false, false_or, not_true_eq_false, not_false_eq_true, and_self, or_self, iff_self]; done) | (simp [h91]; done) | simp_all), by kernel_rfl, hp24⟩
        · refine OPS.batch 0 {} [] [3, 5, 39] [.pointer (some ⟨g3, 0, none⟩), .slice ao no co, .bool (decide (0 < o.N))] .nil (by kernel_rfl) (fun b94 => ?_)
          refine OPS.re [.pointer (some ⟨g3, 0, none⟩), .slice ao no co, .bool false] (by rw [show (decide (0 < o.N)) = false from Bp.dec.ff h91]) ?_
          refine OPS.batch 7 { wraps := [46] } [] [3, 5, 46] [.pointer (some ⟨g3, 0, none⟩), .slice ao no co, .bool false] .nil (by kernel_rfl) (fun b95 => ?_)
          refine OPS.nil ?_
          refine thn_n ?_
          exact ⟨false, trivial, Bp.of Bp.f (by first | (simp only [h91, iff_false, false_iff, iff_true, true_iff, Classical.not_not, and_true, true_and, and_false, false_and, or_true, true_or, or_false, false_or, not_true_eq_false, not_false_eq_true, and_self, or_self, iff_self]; done) | (simp [h91]; done) | simp_all), by kernel_rfl, hp24⟩
      rintro e98 w99 ⟨x96, hd101, hb97, hE102, hp100⟩
      obtain ⟨b103, rfl⟩ := toMk hE102
      clear hE102
      clear hd101
      refine WP.test (p := (0 < o.N) ∧ (o.N < (((no : Nat) : Int).tdiv 2))) rfl hb97 (fun h104 => ?_) (fun h104 => ?_)
      · have := own_cap hp100.get0
        refine WP.pure {} [.int .i64 o.N] [5] [.slice ao ((2 * o.N : Int).toNat) co] (.cons (Ld.row1 (P := Try.prog) (t := 3) (o := 4) (v := .int .i64 o.N) hp100.get5 (by kernel_rfl)) (.cons (show Rng .i64 (2 * o.N) from Rng.i64 (by omega)) (.cons (show 0 ≤ (2 * o.N) ∧ (2 * o.N) ≤ ((co : Nat) : Int) from ⟨by omega, by omega⟩) .nil))) (by kernel_rfl) (fun b105 => ?_)
        refine thn_n ?_
        refine WP.seq ?_
        refine WP.pure {} [] [4] [.slice ao ((2 * o.N : Int).toNat) co] .nil (by kernel_rfl) (fun b106 => ?_)
        refine thn_n ?_
        refine WP.ret ?_
        refine bodyQ.of _ rfl [.slice ao ((2 * o.N : Int).toNat) co] ⟨rfl, trivial⟩ ?_
        have hk : k = zs.length := by omega
        rw [hk, hzl, List.take_of_length_le (Nat.le_refl _)] at pb
        have hpl := flatP_len ls (servQ cs true)
        rw [← pb] at hpl
        have hq0 : servQ cs true = [] := by apply List.eq_nil_of_length_eq_zero; omega
        have hC : eachC c cs o.V = cs := by unfold eachC; rw [if_pos hq0]
        have hL : eachI c cs ls o.V = ls := by unfold eachI; rw [if_pos hq0]
        rw [hC, hL]
        obtain ⟨hw, hwl⟩ := want_cut (N := o.N) pb (by omega) (by omega)
        have hp107 := hp100.turn0 (Res.own 3 1 (.slice ao ((2 * o.N : Int).toNat) co) ((2 * o.N : Int).toNat) (List.flatMap (fun (y : Int) => [Go.Value.int .i64 y]) (List.take ((2 * o.N : Int).toNat) xs))) (fun hh => by rw [← flat_take (sz := 1) (fun _ => rfl)]; exact own_cut (by omega) hh) own_foot
        rw [hwl, hw]
        exact ⟨_, _, rfl, (hp107.sub (.cons_cons _ (.cons _ (.cons_cons _ (.cons_cons _ (.cons_cons _ (.cons _ (.refl _))))))))⟩
      · refine WP.skip ?_
        refine thn_n ?_
        refine WP.seq ?_
        refine WP.pure {} [] [4] [.slice ao no co] .nil (by kernel_rfl) (fun b108 => ?_)
        refine thn_n ?_
        refine WP.ret ?_
        refine bodyQ.of _ rfl [.slice ao no co] ⟨rfl, trivial⟩ ?_
        have hk : k = zs.length := by omega
        rw [hk, hzl, List.take_of_length_le (Nat.le_refl _)] at pb
        have hpl := flatP_len ls (servQ cs true)
        rw [← pb] at hpl
        have hq0 : servQ cs true = [] := by apply List.eq_nil_of_length_eq_zero; omega
        have hC : eachC c cs o.V = cs := by unfold eachC; rw [if_pos hq0]
        have hL : eachI c cs ls o.V = ls := by unfold eachI; rw [if_pos hq0]
        rw [hC, hL]
        have hw : wantP ls (servQ cs true) o.N = xs := by rw [want_all (by omega), pb]
        have pe2 := own_flat (sz := 1) (fun _ => rfl) (by decide) hp100.get0
        obtain rfl : no = xs.length := by omega
        rw [hw]
        exact ⟨_, _, rfl, (hp100.sub (.cons_cons _ (.cons _ (.cons_cons _ (.cons_cons _ (.cons_cons _ (.cons _ (.refl _))))))))⟩

theorem w17_wanted_nil (o : Gsherdlaw17_Op) (w : World) :
    Calls Try.prog 56 #[.pointer none, Gsherdlaw17_Op.val o] w (fun r_ w' => r_ = .returned (.slice none 0 0) ∧ Fram Non w w') := by
  have htd : (0 : Int).tdiv 2 = 0 := by decide
  refine calls_of Try.func56 rfl 53 rfl (by simp) ?_
  have hp0 := Hp.init w
  have he0 : List.map (env0 [.pointer none, Gsherdlaw17_Op.val o]) [0, 1] = [.pointer none, Gsherdlaw17_Op.val o] := by kernel_rfl
  obtain ⟨b0, he0⟩ := toMk he0
  rw [he0]
  clear he0
  refine WP.seq ?_
  refine WP.region _ rfl (by kernel_rfl) ?_
  refine OPS.cons (opStep.box hp0 [.int .i64 o.Kind, .int .i64 o.P, .int .i64 o.Server, .int .i64 o.V, .int .i64 o.N] (by kernel_rfl) (fun g3 w1 hp2 => ?_))
  refine OPS.batch 1 {} [] [0, 3] [.pointer none, .pointer (some ⟨g3, 0, none⟩)] .nil (by kernel_rfl) (fun b4 => ?_)
  refine OPS.nil ?_
  refine thn_n ?_
  refine WP.seq ?_
  refine WP.pure {} [] [0, 3, 5] [.pointer none, .pointer (some ⟨g3, 0, none⟩), .slice none 0 0] .nil (by kernel_rfl) (fun b5 => ?_)
  refine thn_n ?_
  refine WP.seq ?_
  refine WP.seq ?_
  refine WP.region _ rfl (by kernel_rfl) ?_
  refine OPS.batch 1 {} [] [0, 3, 5, 10] [.pointer none, .pointer (some ⟨g3, 0, none⟩), .slice none 0 0, .pointer none] .nil (by kernel_rfl) (fun b6 => ?_)
  refine OPS.cons (opStep.call (some 11) [.pointer none, .bool true] (by kernel_rfl) (r17_Servers_nil true _) ?_)
  rintro _ w9 ⟨rfl, hf10⟩
  refine ⟨_, rfl, ?_⟩
  have hp11 := hp2.step hf10
  refine OPS.batch 2 {} [] [0, 3, 5, 11, 12, 13] [.pointer none, .pointer (some ⟨g3, 0, none⟩), .slice none 0 0, .slice none 0 0, .int .i64 0, .int .i64 0] .nil (by kernel_rfl) (fun b12 => ?_)
  refine OPS.nil ?_
  refine thn_n ?_
  refine WP.block ?_
  refine WP.rounds 1 ?_
  refine RND.step ?_
  refine WP.seq ?_
  refine WP.pure {} [] [0, 3, 5, 11, 12, 13, 14] [.pointer none, .pointer (some ⟨g3, 0, none⟩), .slice none 0 0, .slice none 0 0, .int .i64 0, .int .i64 0, .bool false] .nil (by kernel_rfl) (fun b13 => ?_)
  refine thn_n ?_
  refine WP.seq ?_
  refine WP.condF rfl ?_
  refine WP.exit ?_
  refine thn_x ?_
  refine thn_x ?_
  refine blk_hit ?_
  refine thn_n ?_
  refine WP.seq ?_
  refine WP.seq ?_
  refine WP.pure {} [] [0, 3, 5, 31] [.pointer none, .pointer (some ⟨g3, 0, none⟩), .slice none 0 0, .bool false] .nil (by kernel_rfl) (fun b14 => ?_)
  refine thn_n ?_
  refine WP.condF rfl ?_
  refine WP.skip ?_
  refine thn_n ?_
  refine WP.seq ?_
  refine WP.cut (fun e24 w25 => ∃ (x22 : Bool), (True) ∧ Bp x22 ((0 < o.N) ∧ (o.N < ((0 : Int).tdiv 2))) ∧ List.map e24 [3, 5, 46] = [.pointer (some ⟨g3, 0, none⟩), .slice none 0 0, .bool x22] ∧ Hp w Non [Res.row g3 [.int .i64 o.Kind, .int .i64 o.P, .int .i64 o.Server, .int .i64 o.V, .int .i64 o.N] 52] w25) ?_ ?_
  · refine WP.region _ rfl (by kernel_rfl) ?_
    refine OPS.batch 4 {} [.int .i64 o.N] [3, 5, 39] [.pointer (some ⟨g3, 0, none⟩), .slice none 0 0, .bool (decide (0 < o.N))] (.cons (Ld.row1 (P := Try.prog) (t := 3) (o := 4) (v := .int .i64 o.N) hp11.get0 (by kernel_rfl)) .nil) (by kernel_rfl) (fun b16 => ?_)
    by_cases h17 : 0 < o.N
    · refine OPS.batch 0 {} [] [3, 5, 39] [.pointer (some ⟨g3, 0, none⟩), .slice none 0 0, .bool (decide (0 < o.N))] .nil (by kernel_rfl) (fun b18 => ?_)
      refine OPS.re [.pointer (some ⟨g3, 0, none⟩), .slice none 0 0, .bool true] (by rw [show (decide (0 < o.N)) = true from Bp.dec.tt h17]) ?_
      refine OPS.batch 7 { wraps := [46] } [.int .i64 o.N] [3, 5, 46] [.pointer (some ⟨g3, 0, none⟩), .slice none 0 0, .bool (decide (o.N < ((0 : Int).tdiv 2)))] (.cons (Ld.row1 (P := Try.prog) (t := 3) (o := 4) (v := .int .i64 o.N) hp11.get0 (by kernel_rfl)) (.cons (show (2 : Int) ≠ 0 from by omega) (.cons (show Rng .i64 ((0 : Int).tdiv 2) from Rng.i64 (by omega)) .nil))) (by kernel_rfl) (fun b19 => ?_)
      refine OPS.nil ?_
      refine thn_n ?_
      exact ⟨decide (o.N < ((0 : Int).tdiv 2)), trivial, Bp.of Bp.dec (by first | (simp only [h17, iff_false, false_iff, iff_true, true_iff, Classical.not_not, and_true, true_and, and_false, false_and, or_true, true_or, or_false, false_or, not_true_eq_false, not_false_eq_true, and_self, or_self, iff_self]; done) | (simp [h17]; done) | simp_all), by kernel_rfl, hp11⟩
    · refine OPS.batch 0 {} [] [3, 5, 39] [.pointer (some ⟨g3, 0, none⟩), .slice none 0 0, .bool (decide (0 < o.N))] .nil (by kernel_rfl) (fun b20 => ?_)
      refine OPS.re [.pointer (some ⟨g3, 0, none⟩), .slice none 0 0, .bool false] (by rw [show (decide (0 < o.N)) = false from Bp.dec.ff h17]) ?_
      refine OPS.batch 7 { wraps := [46] } [] [3, 5, 46] [.pointer (some ⟨g3, 0, none⟩), .slice none 0 0, .bool false] .nil (by kernel_rfl) (fun b21 => ?_)
      refine OPS.nil ?_
      refine thn_n ?_
      exact ⟨false, trivial, Bp.of Bp.f (by first | (simp only [h17, iff_false, false_iff, iff_true, true_iff, Classical.not_not, and_true, true_and, and_false, false_and, or_true, true_or, or_false, false_or, not_true_eq_false, not_false_eq_true, and_self, or_self, iff_self]; done) | (simp [h17]; done) | simp_all), by kernel_rfl, hp11⟩
  rintro e24 w25 ⟨x22, hd27, hb23, hE28, hp26⟩
  obtain ⟨b29, rfl⟩ := toMk hE28
  clear hE28
  clear hd27
  refine WP.test (p := (0 < o.N) ∧ (o.N < ((0 : Int).tdiv 2))) rfl hb23 (fun h30 => ?_) (fun h30 => ?_)
  · refine WP.pure {} [.int .i64 o.N] [5] [.slice none ((2 * o.N : Int).toNat) 0] (.cons (Ld.row1 (P := Try.prog) (t := 3) (o := 4) (v := .int .i64 o.N) hp26.get0 (by kernel_rfl)) (.cons (show Rng .i64 (2 * o.N) from Rng.i64 (by omega)) (.cons (show 0 ≤ (2 * o.N) ∧ (2 * o.N) ≤ ((0 : Nat) : Int) from ⟨by omega, by omega⟩) .nil))) (by kernel_rfl) (fun b31 => ?_)
    refine thn_n ?_
    refine WP.seq ?_
    refine WP.pure {} [] [4] [.slice none ((2 * o.N : Int).toNat) 0] .nil (by kernel_rfl) (fun b32 => ?_)
    refine thn_n ?_
    refine WP.ret ?_
    refine bodyQ.of _ rfl [.slice none ((2 * o.N : Int).toNat) 0] ⟨rfl, trivial⟩ ?_
    exfalso
    omega
  · refine WP.skip ?_
    refine thn_n ?_
    refine WP.seq ?_
    refine WP.pure {} [] [4] [.slice none 0 0] .nil (by kernel_rfl) (fun b33 => ?_)
    refine thn_n ?_
    refine WP.ret ?_
    refine bodyQ.of _ rfl [.slice none 0 0] ⟨rfl, trivial⟩ ?_
    exact ⟨rfl, hp26.fr⟩

end Go.Proofs.Ytgpjpcemfaignaa.K
