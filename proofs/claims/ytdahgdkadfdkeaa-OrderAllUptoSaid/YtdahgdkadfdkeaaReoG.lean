/- The walks of ReoG: what each function computes. -/
import Derived.Test.YtdahgdkadfdkeaaProg
import Derived.Test.YtdahgdkadfdkeaaCoreO
import Derived.Test.YtdahgdkadfdkeaaReoF
namespace Go.Proofs.Ytdahgdkadfdkeaa.K
open Go Go.Proofs Go.RowKit
set_option linter.unusedVariables false
set_option linter.unusedSimpArgs false
set_option maxRecDepth 20000
set_option maxHeartbeats 4000000

theorem r21_ByTags (l : List GCall) (a : Option Addr) (n c : Nat) (w : World) (hn : n = l.length) (hb : l.length ≤ 8796093022207) (hs : SlR w a n (l.flatMap GCall.cells)) (hb2 : l.length ≤ 1048576) :
    Calls Try.prog 32 #[.slice a n c] w (fun r_ w' => ∃ ao co q e, r_ = .returned (.tuple #[.slice ao q.length co, .int .i64 e]) ∧ byS l q e ∧ Hp w Non [Res.own 3 1 (.slice ao q.length co) q.length (List.flatMap (fun (y : Int) => [Go.Value.int .i64 y]) q)] w') := by
  refine calls_of Try.func32 rfl 189 rfl (by simp) ?_
  have hp0 := Hp.init w
  have he0 : List.map (env0 [.slice a n c]) [0] = [.slice a n c] := by kernel_rfl
  obtain ⟨b0, he0⟩ := toMk he0
  rw [he0]
  clear he0
  refine WP.seq ?_
  refine WP.pure {} [] [0] [.slice a n c] .nil (by kernel_rfl) (fun b1 => ?_)
  refine thn_n ?_
  refine WP.seq ?_
  refine WP.seq ?_
  refine WP.region _ rfl (by kernel_rfl) ?_
  refine OPS.batch 1 {} [] [0, 17] [.slice a n c, .slice a n c] .nil (by kernel_rfl) (fun b2 => ?_)
  refine OPS.cons (opStep.call (some 18) [.slice a n c] (by kernel_rfl) (r21_Fit l _ _ _ _ (by omega) (by omega) (hs.at hp0)) ?_)
  rintro _ w5 ⟨b8, rfl, hb9, hf6⟩
  refine ⟨_, rfl, ?_⟩
  have hp7 := hp0.step hf6
  refine OPS.batch 1 {} [] [0, 19] [.slice a n c, .bool (!b8)] .nil (by kernel_rfl) (fun b10 => ?_)
  refine OPS.nil ?_
  refine thn_n ?_
  refine WP.test (p := ¬ (fitP l)) rfl (Bp.not hb9) (fun h11 => ?_) (fun h11 => ?_)
  · refine WP.seq ?_
    refine WP.pure {} [] [2, 3] [.slice none 0 0, .int .i64 1] .nil (by kernel_rfl) (fun b12 => ?_)
    refine thn_n ?_
    refine WP.ret ?_
    refine thn_r ?_
    refine bodyQ.of _ rfl [.slice none 0 0, .int .i64 1] ⟨rfl, rfl, trivial⟩ ?_
    have hp13 := (show Hp w Non (Res.own 3 1 (.slice none 0 0) 0 (List.flatMap (fun (y : Int) => [Go.Value.int .i64 y]) ([] : List Int)) :: []) w5 from hp7.nilOwn 3 1)
    exact ⟨none, 0, [], _, rfl, .inl ⟨h11, rfl, rfl⟩, hp13.sub (.cons_cons _ (List.nil_sublist _))⟩
  · replace h11 := Classical.not_not.1 h11
    refine WP.skip ?_
    refine thn_n ?_
    refine WP.seq ?_
    refine WP.region _ rfl (by kernel_rfl) ?_
    refine OPS.batch 1 {} [] [0, 20] [.slice a n c, .slice a n c] .nil (by kernel_rfl) (fun b14 => ?_)
    refine OPS.cons (opStep.call (some 21) [.slice a n c] (by kernel_rfl) (r21_taken l _ _ _ _ (by omega) (by omega) (hs.at hp7) (by omega) h11) ?_)
    rintro _ w17 ⟨a19, n20, c21, xs22, rfl, hq23, hp18⟩
    refine ⟨_, rfl, ?_⟩
    have hp24 := hp7.made hp18
    have hq23l := own_flat (sz := 3) (fun _ => rfl) (by decide) hp24.get0
    have hq23m := hq23.2.2
    refine OPS.batch 1 {} [] [0, 4] [.slice a n c, .slice a19 n20 c21] .nil (by kernel_rfl) (fun b25 => ?_)
    refine OPS.nil ?_
    refine thn_n ?_
    refine WP.seq ?_
    refine WP.seq ?_
    refine WP.pure {} [] [0, 4, 5] [.slice a n c, .slice a19 n20 c21, .int .i64 0] .nil (by kernel_rfl) (fun b26 => ?_)
    refine thn_n ?_
    refine WP.block ?_
    refine WP.loop (fun mz_ e27 w28 => ∃ (k : Nat), mz_ = xs22.length - k ∧ (k ≤ xs22.length ∧ tkN xs22 k) ∧ List.map e27 [0, 4, 5] = [.slice a n c, .slice a19 n20 c21, .int .i64 (k : Int)] ∧ Hp w Non [Res.own 115 3 (.slice a19 n20 c21) n20 (List.flatMap Gsherdref21_Taken.cells xs22)] w28) (xs22.length - (0)) ⟨0, rfl, ⟨by omega, fun a ha => by omega⟩, by kernel_rfl, hp24⟩ ?_
    rintro _ e27 w28 ⟨k, rfl, hI30, hE31, hp29⟩
    obtain ⟨b32, rfl⟩ := toMk hE31
    clear hE31
    obtain ⟨pa, pb⟩ := hI30
    refine WP.seq ?_
    refine WP.seq ?_
    refine WP.pure {} [] [0, 4, 5, 25] [.slice a n c, .slice a19 n20 c21, .int .i64 (k : Int), .bool (decide ((k : Int) < ((n20 : Nat) : Int)))] .nil (by kernel_rfl) (fun b33 => ?_)
    refine thn_n ?_
    refine WP.test (p := (k : Int) < ((n20 : Nat) : Int)) rfl Bp.dec (fun h34 => ?_) (fun h34 => ?_)
    · refine WP.skip ?_
      refine thn_n ?_
      refine WP.seq ?_
      refine WP.block ?_
      refine WP.seq ?_
      refine WP.seq ?_
      refine WP.region _ rfl (by kernel_rfl) ?_
      have := own_flat (sz := 3) (fun _ => rfl) (by decide) hp29.get0
      have hy38 : (xs22)[k]? = some xs22[k]! := get_bang (by first | (omega) | (simp only [List.length_append, List.length_cons, List.length_nil]; omega) | (simp only [List.length_take, List.length_append, List.length_cons, List.length_nil]; omega))
      refine OPS.batch 5 {} [.agg #[.int .i64 (xs22[k]!.Tag.Count), .int .i64 (xs22[k]!.Tag.Client)]] [0, 4, 5, 32] [.slice a n c, .slice a19 n20 c21, .int .i64 (k : Int), .agg #[.int .i64 (xs22[k]!.Tag.Count), .int .i64 (xs22[k]!.Tag.Client)]] (.cons (show InB ((k : Int)) (n20) from ⟨by omega, by omega⟩) (.cons ((SlR.own (hp29.get0)).some (by omega)) (.cons (Ld.elN (P := Try.prog) (t := 70) (SlR.own (hp29.get0)).rd 3 (fun _ => rfl) hy38 (o := 1) (cs := [.int .i64 (xs22[k]!.Tag.Count), .int .i64 (xs22[k]!.Tag.Client)]) (by kernel_rfl)) .nil))) (by kernel_rfl) (fun b39 => ?_)
      refine OPS.cons (opStep.call (some 33) [.agg #[.int .i64 (xs22[k]!.Tag.Count), .int .i64 (xs22[k]!.Tag.Client)]] (by kernel_rfl) (r8_Proper xs22[k]!.Tag _) ?_)
      rintro _ w42 ⟨b45, rfl, hb46, hf43⟩
      refine ⟨_, rfl, ?_⟩
      have hp44 := hp29.step hf43
      refine OPS.batch 1 {} [] [0, 4, 5, 34] [.slice a n c, .slice a19 n20 c21, .int .i64 (k : Int), .bool (!b45)] .nil (by kernel_rfl) (fun b47 => ?_)
      refine OPS.nil ?_
      refine thn_n ?_
      refine WP.test (p := ¬ (tagProper xs22[k]!.Tag)) rfl (Bp.not hb46) (fun h48 => ?_) (fun h48 => ?_)
      · refine WP.seq ?_
        refine WP.pure {} [] [2, 3] [.slice none 0 0, .int .i64 81] .nil (by kernel_rfl) (fun b49 => ?_)
        refine thn_n ?_
        refine WP.ret ?_
        refine thn_r ?_
        refine blk_r ?_
        refine thn_r ?_
        refine thn_r ?_
        refine blk_r ?_
        refine thn_r ?_
        refine bodyQ.of _ rfl [.slice none 0 0, .int .i64 81] ⟨rfl, rfl, trivial⟩ ?_
        have hp50 := (show Hp w Non (Res.own 3 1 (.slice none 0 0) 0 (List.flatMap (fun (y : Int) => [Go.Value.int .i64 y]) ([] : List Int)) :: [Res.own 115 3 (.slice a19 n20 c21) n20 (List.flatMap Gsherdref21_Taken.cells xs22)]) w42 from hp44.nilOwn 3 1)
        exact ⟨none, 0, [], _, rfl, .inr (.inl ⟨h11, tk_bad1 hq23 (by omega) h48, rfl, rfl⟩), hp50.sub (.cons_cons _ (List.nil_sublist _))⟩
      · replace h48 := Classical.not_not.1 h48
        refine WP.skip ?_
        refine thn_n ?_
        refine WP.seq ?_
        refine WP.pure {} [] [0, 4, 5, 6] [.slice a n c, .slice a19 n20 c21, .int .i64 (k : Int), .int .i64 0] .nil (by kernel_rfl) (fun b51 => ?_)
        refine thn_n ?_
        refine WP.block ?_
        refine WP.loop (fun mz_ e52 w53 => ∃ (m : Nat), mz_ = k - m ∧ (m ≤ k ∧ ∀ b, b < m → ¬ xs22[k]!.Tag = xs22[b]!.Tag ∧ ¬ xs22[k]!.Call = xs22[b]!.Call) ∧ List.map e52 [0, 4, 5, 6] = [.slice a n c, .slice a19 n20 c21, .int .i64 (k : Int), .int .i64 (m : Int)] ∧ Hp w Non [Res.own 115 3 (.slice a19 n20 c21) n20 (List.flatMap Gsherdref21_Taken.cells xs22)] w53) (k - (0)) ⟨0, rfl, ⟨by omega, fun b hb => by omega⟩, by kernel_rfl, hp44⟩ ?_
        rintro _ e52 w53 ⟨m, rfl, hI55, hE56, hp54⟩
        obtain ⟨b57, rfl⟩ := toMk hE56
        clear hE56
        obtain ⟨qa, qb⟩ := hI55
        refine WP.seq ?_
        refine WP.seq ?_
        refine WP.pure {} [] [0, 4, 5, 6, 37] [.slice a n c, .slice a19 n20 c21, .int .i64 (k : Int), .int .i64 (m : Int), .bool (decide ((m : Int) < (k : Int)))] .nil (by kernel_rfl) (fun b58 => ?_)
        refine thn_n ?_
        refine WP.test (p := (m : Int) < (k : Int)) rfl Bp.dec (fun h59 => ?_) (fun h59 => ?_)
        · refine WP.skip ?_
          refine thn_n ?_
          refine WP.seq ?_
          refine WP.block ?_
          refine WP.cut (fun e86 w87 => ∃ (x84 : Bool), (True) ∧ Bp x84 (((((xs22[k]!.Tag.Count) = (xs22[m]!.Tag.Count)) ∧ ((xs22[k]!.Tag.Client) = (xs22[m]!.Tag.Client)))) ∨ ((¬ (((xs22[k]!.Tag.Count) = (xs22[m]!.Tag.Count)) ∧ ((xs22[k]!.Tag.Client) = (xs22[m]!.Tag.Client)))) ∧ ((xs22[k]!.Call) = (xs22[m]!.Call)))) ∧ List.map e86 [0, 4, 5, 6, 63] = [.slice a n c, .slice a19 n20 c21, .int .i64 (k : Int), .int .i64 (m : Int), .bool x84] ∧ Hp w Non [Res.own 115 3 (.slice a19 n20 c21) n20 (List.flatMap Gsherdref21_Taken.cells xs22)] w87) ?_ ?_
          · have hp63 := hp54.drew
            refine WP.quiet (fun w61 => Hp w Non [Res.own 115 3 (.slice a19 n20 c21) n20 (List.flatMap Gsherdref21_Taken.cells xs22)] w61) (by kernel_rfl) hp63 ?_
            have hnehp63 : ∃ wz_, (fun w61 => Hp w Non [Res.own 115 3 (.slice a19 n20 c21) n20 (List.flatMap Gsherdref21_Taken.cells xs22)] w61) wz_ := ⟨_, hp63⟩
            have := own_flat (sz := 3) (fun _ => rfl) (by decide) hp63.get0
            have hy67 : (xs22)[k]? = some xs22[k]! := get_bang (by first | (omega) | (simp only [List.length_append, List.length_cons, List.length_nil]; omega) | (simp only [List.length_take, List.length_append, List.length_cons, List.length_nil]; omega))
            have := own_flat (sz := 3) (fun _ => rfl) (by decide) hp63.get0
            have hy69 : (xs22)[m]? = some xs22[m]! := get_bang (by first | (omega) | (simp only [List.length_append, List.length_cons, List.length_nil]; omega) | (simp only [List.length_take, List.length_append, List.length_cons, List.length_nil]; omega))
            refine QOPS.batch 12 {} [.agg #[.int .i64 (xs22[k]!.Tag.Count), .int .i64 (xs22[k]!.Tag.Client)], .agg #[.int .i64 (xs22[m]!.Tag.Count), .int .i64 (xs22[m]!.Tag.Client)]] [0, 4, 5, 6, 51] [.slice a n c, .slice a19 n20 c21, .int .i64 (k : Int), .int .i64 (m : Int), .bool ((decide ((xs22[k]!.Tag.Count) = (xs22[m]!.Tag.Count))) && ((decide ((xs22[k]!.Tag.Client) = (xs22[m]!.Tag.Client))) && true))] hnehp63 (fun w64 hp65 => QB.mk (.cons (show InB ((k : Int)) (n20) from ⟨by omega, by omega⟩) (.cons ((SlR.own (hp65.get0)).some (by omega)) (.cons (Ld.elN (P := Try.prog) (t := 70) (SlR.own (hp65.get0)).rd 3 (fun _ => rfl) hy67 (o := 1) (cs := [.int .i64 (xs22[k]!.Tag.Count), .int .i64 (xs22[k]!.Tag.Client)]) (by kernel_rfl)) (.cons (show InB ((m : Int)) (n20) from ⟨by omega, by omega⟩) (.cons ((SlR.own (hp65.get0)).some (by omega)) (.cons (Ld.elN (P := Try.prog) (t := 70) (SlR.own (hp65.get0)).rd 3 (fun _ => rfl) hy69 (o := 1) (cs := [.int .i64 (xs22[m]!.Tag.Count), .int .i64 (xs22[m]!.Tag.Client)]) (by kernel_rfl)) .nil)))))) (by kernel_rfl)) (fun b70 => ?_)
            by_cases h71 : ((xs22[k]!.Tag.Count) = (xs22[m]!.Tag.Count)) ∧ ((xs22[k]!.Tag.Client) = (xs22[m]!.Tag.Client))
            · refine QOPS.batch 0 {} [] [0, 4, 5, 6, 51] [.slice a n c, .slice a19 n20 c21, .int .i64 (k : Int), .int .i64 (m : Int), .bool ((decide ((xs22[k]!.Tag.Count) = (xs22[m]!.Tag.Count))) && ((decide ((xs22[k]!.Tag.Client) = (xs22[m]!.Tag.Client))) && true))] hnehp63 (fun _ _ => QB.mk .nil (by kernel_rfl)) (fun b72 => ?_)
              refine QOPS.re [.slice a n c, .slice a19 n20 c21, .int .i64 (k : Int), .int .i64 (m : Int), .bool true] (by rw [show ((decide ((xs22[k]!.Tag.Count) = (xs22[m]!.Tag.Count))) && ((decide ((xs22[k]!.Tag.Client) = (xs22[m]!.Tag.Client))) && true)) = true from (Bp.band Bp.dec (Bp.band1 Bp.dec)).tt h71]) ?_
              refine QOPS.batch 12 { wraps := [63] } [] [0, 4, 5, 6, 63] [.slice a n c, .slice a19 n20 c21, .int .i64 (k : Int), .int .i64 (m : Int), .bool true] hnehp63 (fun w73 hp74 => QB.mk .nil (by kernel_rfl)) (fun b75 => ?_)
              refine QOPS.nil (fun w76 hp77 => ?_)
              refine thn_n ?_
              exact ⟨true, trivial, Bp.of Bp.t (by first | (simp only [h71, iff_false, false_iff, iff_true, true_iff, Classical.not_not, and_true, true_and, and_false, false_and, or_true, true_or, or_false, false_or, not_true_eq_false, not_false_eq_true, and_self, or_self, iff_self]; done) | (simp [h71]; done) | grind | (simp_all; done)), by kernel_rfl, hp77⟩
            · refine QOPS.batch 0 {} [] [0, 4, 5, 6, 51] [.slice a n c, .slice a19 n20 c21, .int .i64 (k : Int), .int .i64 (m : Int), .bool ((decide ((xs22[k]!.Tag.Count) = (xs22[m]!.Tag.Count))) && ((decide ((xs22[k]!.Tag.Client) = (xs22[m]!.Tag.Client))) && true))] hnehp63 (fun _ _ => QB.mk .nil (by kernel_rfl)) (fun b78 => ?_)
              refine QOPS.re [.slice a n c, .slice a19 n20 c21, .int .i64 (k : Int), .int .i64 (m : Int), .bool false] (by rw [show ((decide ((xs22[k]!.Tag.Count) = (xs22[m]!.Tag.Count))) && ((decide ((xs22[k]!.Tag.Client) = (xs22[m]!.Tag.Client))) && true)) = false from (Bp.band Bp.dec (Bp.band1 Bp.dec)).ff h71]) ?_
              refine QOPS.batch 12 { wraps := [63] } [.int .i64 (xs22[k]!.Call), .int .i64 (xs22[m]!.Call)] [0, 4, 5, 6, 63] [.slice a n c, .slice a19 n20 c21, .int .i64 (k : Int), .int .i64 (m : Int), .bool (decide ((xs22[k]!.Call) = (xs22[m]!.Call)))] hnehp63 (fun w79 hp80 => QB.mk (.cons (show InB ((k : Int)) (n20) from ⟨by omega, by omega⟩) (.cons ((SlR.own (hp80.get0)).some (by omega)) (.cons (Ld.add0 (Ld.el1 (P := Try.prog) (t := 3) (SlR.own (hp80.get0)).rd 3 (fun _ => rfl) hy67 (o := 0) (v := .int .i64 (xs22[k]!.Call)) (by kernel_rfl))) (.cons (show InB ((m : Int)) (n20) from ⟨by omega, by omega⟩) (.cons ((SlR.own (hp80.get0)).some (by omega)) (.cons (Ld.add0 (Ld.el1 (P := Try.prog) (t := 3) (SlR.own (hp80.get0)).rd 3 (fun _ => rfl) hy69 (o := 0) (v := .int .i64 (xs22[m]!.Call)) (by kernel_rfl))) .nil)))))) (by kernel_rfl)) (fun b81 => ?_)
              refine QOPS.nil (fun w82 hp83 => ?_)
              refine thn_n ?_
              exact ⟨decide ((xs22[k]!.Call) = (xs22[m]!.Call)), trivial, Bp.of Bp.dec (by first | (simp only [h71, iff_false, false_iff, iff_true, true_iff, Classical.not_not, and_true, true_and, and_false, false_and, or_true, true_or, or_false, false_or, not_true_eq_false, not_false_eq_true, and_self, or_self, iff_self]; done) | (simp [h71]; done) | grind | (simp_all; done)), by kernel_rfl, hp83⟩
          rintro e86 w87 ⟨x84, hd89, hb85, hE90, hp88⟩
          obtain ⟨b91, rfl⟩ := toMk hE90
          clear hE90
          clear hd89
          refine WP.test (p := ((((xs22[k]!.Tag.Count) = (xs22[m]!.Tag.Count)) ∧ ((xs22[k]!.Tag.Client) = (xs22[m]!.Tag.Client)))) ∨ ((¬ (((xs22[k]!.Tag.Count) = (xs22[m]!.Tag.Count)) ∧ ((xs22[k]!.Tag.Client) = (xs22[m]!.Tag.Client)))) ∧ ((xs22[k]!.Call) = (xs22[m]!.Call)))) rfl hb85 (fun h92 => ?_) (fun h92 => ?_)
          · refine WP.seq ?_
            refine WP.pure {} [] [2, 3] [.slice none 0 0, .int .i64 81] .nil (by kernel_rfl) (fun b93 => ?_)
            refine thn_n ?_
            refine WP.ret ?_
            refine blk_r ?_
            refine thn_r ?_
            refine thn_r ?_
            refine blk_r ?_
            refine blk_r ?_
            refine thn_r ?_
            refine thn_r ?_
            refine blk_r ?_
            refine thn_r ?_
            refine bodyQ.of _ rfl [.slice none 0 0, .int .i64 81] ⟨rfl, rfl, trivial⟩ ?_
            have hp94 := (show Hp w Non (Res.own 3 1 (.slice none 0 0) 0 (List.flatMap (fun (y : Int) => [Go.Value.int .i64 y]) ([] : List Int)) :: [Res.own 115 3 (.slice a19 n20 c21) n20 (List.flatMap Gsherdref21_Taken.cells xs22)]) w87 from hp88.nilOwn 3 1)
            exact ⟨none, 0, [], _, rfl, .inr (.inl ⟨h11, tk_bad2 hq23 (a := k) (b := m) (by omega) (by omega) (by rw [tagEq]; have h_ := h92; grind), rfl, rfl⟩), hp94.sub (.cons_cons _ (List.nil_sublist _))⟩
          · refine WP.skip ?_
            refine blk_n ?_
            refine thn_n ?_
            refine WP.pure {} [] [0, 4, 5, 6] [.slice a n c, .slice a19 n20 c21, .int .i64 (k : Int), .int .i64 ((m : Int) + 1)] (.cons (show Rng .i64 ((m : Int) + 1) from Rng.i64 (by omega)) .nil) (by kernel_rfl) (fun b95 => ?_)
            refine thn_n ?_
            exact ⟨k - (m + 1), (by omega), m + 1, rfl, ⟨by omega, fun b hb => by by_cases e : b = m; subst e; rw [tagEq]; have h_ := h92; grind; exact qb b (by omega)⟩, by kernel_rfl, hp88⟩
        · refine WP.exit ?_
          refine thn_x ?_
          refine thn_x ?_
          refine blk_hit ?_
          refine blk_n ?_
          refine thn_n ?_
          refine WP.pure {} [] [0, 4, 5] [.slice a n c, .slice a19 n20 c21, .int .i64 ((k : Int) + 1)] (.cons (show Rng .i64 ((k : Int) + 1) from Rng.i64 (by omega)) .nil) (by kernel_rfl) (fun b96 => ?_)
          refine thn_n ?_
          exact ⟨xs22.length - (k + 1), (by omega), k + 1, rfl, ⟨by omega, fun a ha => by by_cases e : a = k; subst e; exact ⟨h48, fun b hb => qb b (by omega)⟩; exact pb a (by omega)⟩, by kernel_rfl, hp54⟩
    · refine WP.exit ?_
      refine thn_x ?_
      refine thn_x ?_
      refine blk_hit ?_
      refine thn_n ?_
      refine WP.seq ?_
      refine WP.pure {} [] [0, 4, 7] [.slice a n c, .slice a19 n20 c21, .slice none 0 0] .nil (by kernel_rfl) (fun b97 => ?_)
      refine thn_n ?_
      refine WP.seq ?_
      refine WP.seq ?_
      refine WP.pure {} [] [0, 4, 7, 8] [.slice a n c, .slice a19 n20 c21, .slice none 0 0, .int .i64 0] .nil (by kernel_rfl) (fun b98 => ?_)
      refine thn_n ?_
      refine WP.block ?_
      have hN : tkN xs22 xs22.length := by rw [show k = xs22.length from by omega] at pb; exact pb
      have hp99 := (show Hp w Non [Res.own 3 1 (.slice none 0 0) 0 (List.flatMap (fun (y : Int) => [Go.Value.int .i64 y]) ([] : List Int)), Res.own 115 3 (.slice a19 n20 c21) n20 (List.flatMap Gsherdref21_Taken.cells xs22)] w28 from hp29.nilOwn 3 1)
      refine WP.loop (fun mz_ e100 w101 => ∃ (k3 : Nat) (os : List Int) (ao : Option Addr) (no : Nat) (co : Nat), mz_ = l.length - k3 ∧ (k3 ≤ l.length ∧ gtS l absW k3 os ∧ ∀ j, j < k3 → rdC l[j]! → ∃ a, a < xs22.length ∧ xs22[a]!.Tag = l[j]!.Tag) ∧ List.map e100 [0, 4, 7, 8] = [.slice a n c, .slice a19 n20 c21, .slice ao no co, .int .i64 (k3 : Int)] ∧ Hp w Non [Res.own 3 1 (.slice ao no co) no (List.flatMap (fun (y : Int) => [Go.Value.int .i64 y]) os), Res.own 115 3 (.slice a19 n20 c21) n20 (List.flatMap Gsherdref21_Taken.cells xs22)] w101) (l.length - (0)) ⟨0, [], none, 0, 0, rfl, ⟨by omega, gtS_start, fun j hj => by omega⟩, by kernel_rfl, hp99⟩ ?_
      rintro _ e100 w101 ⟨k3, os, ao, no, co, rfl, hI103, hE104, hp102⟩
      obtain ⟨b105, rfl⟩ := toMk hE104
      clear hE104
      obtain ⟨pa3, pb3, pc3⟩ := hI103
      have pe := own_flat (sz := 1) (fun _ => rfl) (by decide) hp102.get0
      have pl3 := gtS_len pb3
      refine WP.seq ?_
      refine WP.seq ?_
      refine WP.pure {} [] [0, 4, 7, 8, 67] [.slice a n c, .slice a19 n20 c21, .slice ao no co, .int .i64 (k3 : Int), .bool (decide ((k3 : Int) < ((n : Nat) : Int)))] .nil (by kernel_rfl) (fun b106 => ?_)
      refine thn_n ?_
      refine WP.test (p := (k3 : Int) < ((n : Nat) : Int)) rfl Bp.dec (fun h107 => ?_) (fun h107 => ?_)
      · refine WP.skip ?_
        refine thn_n ?_
        refine WP.seq ?_
        refine WP.block ?_
        refine WP.seq ?_
        refine WP.seq ?_
        refine WP.region _ rfl (by kernel_rfl) ?_
        have hy111 : (l)[k3]? = some l[k3]! := get_bang (by first | (omega) | (simp only [List.length_append, List.length_cons, List.length_nil]; omega) | (simp only [List.length_take, List.length_append, List.length_cons, List.length_nil]; omega))
        refine OPS.batch 4 {} [GCall.val (l[k3]!)] [0, 4, 7, 8, 73] [.slice a n c, .slice a19 n20 c21, .slice ao no co, .int .i64 (k3 : Int), GCall.val (l[k3]!)] (.cons (show InB ((k3 : Int)) (n) from ⟨by omega, by omega⟩) (.cons ((hs.at hp102).some (by omega)) (.cons (Ld.add0 (Ld.elN (P := Try.prog) (t := 73) (hs.at hp102).rd 11 (fun _ => rfl) hy111 (o := 0) (cs := [.int .i64 (l[k3]!.Client), .int .i64 (l[k3]!.Op), .bool (l[k3]!.Put), .string (l[k3]!.Key), .slice (l[k3]!.Value.a) (l[k3]!.Value.n) (l[k3]!.Value.c), .int .i64 (l[k3]!.Status), .int .i64 (l[k3]!.From), .int .i64 (l[k3]!.To), .bool (l[k3]!.Open), .int .i64 (l[k3]!.Tag.Count), .int .i64 (l[k3]!.Tag.Client)]) (by kernel_rfl))) .nil))) (by kernel_rfl) (fun b112 => ?_)
        refine OPS.cons (opStep.call (some 74) [GCall.val (l[k3]!)] (by kernel_rfl) (r21_absent (l[k3]!) _) ?_)
        rintro _ w115 ⟨b118, rfl, hb119, hf116⟩
        refine ⟨_, rfl, ?_⟩
        have hp117 := hp102.step hf116
        refine OPS.nil ?_
        refine thn_n ?_
        refine WP.test (p := abC (l[k3]!)) rfl hb119 (fun h120 => ?_) (fun h120 => ?_)
        · refine WP.region _ rfl (by kernel_rfl) ?_
          refine OPS.batch 3 {} [] [0, 4, 8, 75, 76, 77] [.slice a n c, .slice a19 n20 c21, .int .i64 (k3 : Int), .slice a n c, .slice ao no co, .int .i64 (k3 : Int)] .nil (by kernel_rfl) (fun b121 => ?_)
          have hp124 := hp117.pull0
          have q131w := own_flat (sz := 1) (fun _ => rfl) (by decide) hp124.get0
          try simp only [List.length_append, List.length_cons, List.length_nil] at q131w
          have q131z := gtS_len pb3
          refine OPS.cons (opStep.call (some 78) [.slice a n c, .slice ao no co, .int .i64 0, .int .i64 (k3 : Int)] (by kernel_rfl) (r21_placed w _ l _ _ _ (by omega) (by omega) (hs) os _ _ _ 0 (k3 : Int) _ (by first | omega | (simp only [List.length_append, List.length_cons, List.length_nil]; omega)) (by first | omega | (simp only [List.length_append, List.length_cons, List.length_nil]; omega)) ⟨by omega, by omega⟩ (gtS_in pb3 (by omega)) (by first | omega | (simp only [List.length_append, List.length_cons, List.length_nil]; omega)) hp124) ?_)
          rintro _ w125 ⟨a127, n128, c129, m130, rfl, ⟨q1311, q1312, q1313, q1314, q1315⟩, hp126⟩
          obtain ⟨g132, e133, hg134⟩ : ∃ g_, insL os m130 (k3 : Int) = g_ ∧ gtS l absW (k3 + 1) g_ := gtS_add (p := ([] : List Int)) (os := os) pb3 (gtS_abs.1 h120) (by have := q1311; simp only [List.length_append, List.length_cons, List.length_nil]; omega) q1312 q1314 (q1315.imp (fun h_ => by simp only [List.length_append, List.length_cons, List.length_nil]; omega) id)
          rw [e133] at hp126
          refine ⟨_, rfl, ?_⟩
          refine OPS.batch 1 {} [] [0, 4, 7, 8] [.slice a n c, .slice a19 n20 c21, .slice a127 n128 c129, .int .i64 (k3 : Int)] .nil (by kernel_rfl) (fun b136 => ?_)
          refine OPS.nil ?_
          refine thn_n ?_
          refine WP.seq ?_
          refine WP.seq ?_
          refine WP.region _ rfl (by kernel_rfl) ?_
          refine OPS.batch 4 {} [GCall.val (l[k3]!)] [0, 4, 7, 8, 82] [.slice a n c, .slice a19 n20 c21, .slice a127 n128 c129, .int .i64 (k3 : Int), GCall.val (l[k3]!)] (.cons (show InB ((k3 : Int)) (n) from ⟨by omega, by omega⟩) (.cons ((hs.at hp126).some (by omega)) (.cons (Ld.add0 (Ld.elN (P := Try.prog) (t := 73) (hs.at hp126).rd 11 (fun _ => rfl) hy111 (o := 0) (cs := [.int .i64 (l[k3]!.Client), .int .i64 (l[k3]!.Op), .bool (l[k3]!.Put), .string (l[k3]!.Key), .slice (l[k3]!.Value.a) (l[k3]!.Value.n) (l[k3]!.Value.c), .int .i64 (l[k3]!.Status), .int .i64 (l[k3]!.From), .int .i64 (l[k3]!.To), .bool (l[k3]!.Open), .int .i64 (l[k3]!.Tag.Count), .int .i64 (l[k3]!.Tag.Client)]) (by kernel_rfl))) .nil))) (by kernel_rfl) (fun b137 => ?_)
          refine OPS.cons (opStep.call (some 83) [GCall.val (l[k3]!)] (by kernel_rfl) (r21_read (l[k3]!) _) ?_)
          rintro _ w140 ⟨b143, rfl, hb144, hf141⟩
          refine ⟨_, rfl, ?_⟩
          have hp142 := hp126.step hf141
          refine OPS.batch 1 {} [] [0, 4, 7, 8, 84] [.slice a n c, .slice a19 n20 c21, .slice a127 n128 c129, .int .i64 (k3 : Int), .bool (!b143)] .nil (by kernel_rfl) (fun b145 => ?_)
          refine OPS.nil ?_
          refine thn_n ?_
          refine WP.test (p := ¬ (rdC (l[k3]!))) rfl (Bp.not hb144) (fun h146 => ?_) (fun h146 => ?_)
          · refine WP.exit ?_
            refine thn_x ?_
            refine blk_hit ?_
            refine thn_n ?_
            refine WP.pure {} [] [0, 4, 7, 8] [.slice a n c, .slice a19 n20 c21, .slice a127 n128 c129, .int .i64 ((k3 : Int) + 1)] (.cons (show Rng .i64 ((k3 : Int) + 1) from Rng.i64 (by omega)) .nil) (by kernel_rfl) (fun b147 => ?_)
            refine thn_n ?_
            exact ⟨l.length - (k3 + 1), (by omega), k3 + 1, g132, a127, n128, c129, rfl, ⟨by omega, hg134, fun j hj hr_ => by by_cases e : j = k3; subst e; exact absurd hr_ h146; exact pc3 j (by omega) hr_⟩, by kernel_rfl, hp142⟩
          · replace h146 := Classical.not_not.1 h146
            refine WP.skip ?_
            refine thn_n ?_
            refine WP.seq ?_
            refine WP.pure {} [] [0, 4, 7, 8, 9] [.slice a n c, .slice a19 n20 c21, .slice a127 n128 c129, .int .i64 (k3 : Int), .bool false] .nil (by kernel_rfl) (fun b148 => ?_)
            refine thn_n ?_
            refine WP.seq ?_
            refine WP.seq ?_
            refine WP.pure {} [] [0, 4, 7, 8, 9, 10] [.slice a n c, .slice a19 n20 c21, .slice a127 n128 c129, .int .i64 (k3 : Int), .bool false, .int .i64 0] .nil (by kernel_rfl) (fun b149 => ?_)
            refine thn_n ?_
            refine WP.block ?_
            refine WP.loop (fun mz_ e150 w151 => ∃ (j : Nat) (b : Bool), mz_ = xs22.length - j ∧ (j ≤ xs22.length ∧ (b = true ↔ ∃ m, m < j ∧ xs22[m]!.Tag = l[k3]!.Tag)) ∧ List.map e150 [0, 4, 7, 8, 9, 10] = [.slice a n c, .slice a19 n20 c21, .slice a127 n128 c129, .int .i64 (k3 : Int), .bool b, .int .i64 (j : Int)] ∧ Hp w Non [Res.own 3 1 (.slice a127 n128 c129) n128 (List.flatMap (fun (y : Int) => [Go.Value.int .i64 y]) g132), Res.own 115 3 (.slice a19 n20 c21) n20 (List.flatMap Gsherdref21_Taken.cells xs22)] w151) (xs22.length - (0)) ⟨0, false, rfl, ⟨by omega, by simp⟩, by kernel_rfl, hp142⟩ ?_
            rintro _ e150 w151 ⟨j, b, rfl, hI153, hE154, hp152⟩
            obtain ⟨b155, rfl⟩ := toMk hE154
            clear hE154
            obtain ⟨fa, fb⟩ := hI153
            refine WP.seq ?_
            refine WP.seq ?_
            refine WP.pure {} [] [0, 4, 7, 8, 9, 10, 88] [.slice a n c, .slice a19 n20 c21, .slice a127 n128 c129, .int .i64 (k3 : Int), .bool b, .int .i64 (j : Int), .bool (decide ((j : Int) < ((n20 : Nat) : Int)))] .nil (by kernel_rfl) (fun b156 => ?_)
            refine thn_n ?_
            refine WP.test (p := (j : Int) < ((n20 : Nat) : Int)) rfl Bp.dec (fun h157 => ?_) (fun h157 => ?_)
            · refine WP.skip ?_
              refine thn_n ?_
              refine WP.seq ?_
              refine WP.block ?_
              have hp160 := hp152.drew
              refine WP.quiet (fun w158 => Hp w Non [Res.own 3 1 (.slice a127 n128 c129) n128 (List.flatMap (fun (y : Int) => [Go.Value.int .i64 y]) g132), Res.own 115 3 (.slice a19 n20 c21) n20 (List.flatMap Gsherdref21_Taken.cells xs22)] w158) (by kernel_rfl) hp160 ?_
              have hnehp160 : ∃ wz_, (fun w158 => Hp w Non [Res.own 3 1 (.slice a127 n128 c129) n128 (List.flatMap (fun (y : Int) => [Go.Value.int .i64 y]) g132), Res.own 115 3 (.slice a19 n20 c21) n20 (List.flatMap Gsherdref21_Taken.cells xs22)] w158) wz_ := ⟨_, hp160⟩
              refine QOPS.batch 2 {} [] [0, 4, 7, 8, 10, 92] [.slice a n c, .slice a19 n20 c21, .slice a127 n128 c129, .int .i64 (k3 : Int), .int .i64 (j : Int), .bool b] hnehp160 (fun w161 hp162 => QB.mk .nil (by kernel_rfl)) (fun b163 => ?_)
              by_cases h164 : b = true
              · refine QOPS.batch 0 {} [] [0, 4, 7, 8, 10, 92] [.slice a n c, .slice a19 n20 c21, .slice a127 n128 c129, .int .i64 (k3 : Int), .int .i64 (j : Int), .bool b] hnehp160 (fun _ _ => QB.mk .nil (by kernel_rfl)) (fun b165 => ?_)
                refine QOPS.re [.slice a n c, .slice a19 n20 c21, .slice a127 n128 c129, .int .i64 (k3 : Int), .int .i64 (j : Int), .bool true] (by rw [show b = true from Bp.var.tt h164]) ?_
                refine QOPS.batch 13 { wraps := [104] } [] [0, 4, 7, 8, 9, 10] [.slice a n c, .slice a19 n20 c21, .slice a127 n128 c129, .int .i64 (k3 : Int), .bool true, .int .i64 (j : Int)] hnehp160 (fun w166 hp167 => QB.mk .nil (by kernel_rfl)) (fun b168 => ?_)
                refine QOPS.nil (fun w169 hp170 => ?_)
                refine blk_n ?_
                refine thn_n ?_
                refine WP.pure {} [] [0, 4, 7, 8, 9, 10] [.slice a n c, .slice a19 n20 c21, .slice a127 n128 c129, .int .i64 (k3 : Int), .bool true, .int .i64 ((j : Int) + 1)] (.cons (show Rng .i64 ((j : Int) + 1) from Rng.i64 (by omega)) .nil) (by kernel_rfl) (fun b171 => ?_)
                refine thn_n ?_
                exact ⟨xs22.length - (j + 1), (by omega), j + 1, true, rfl, ⟨by omega, by rw [show (_ = true ↔ _) from Bp.t, ex_step, ← fb, tagEq]; grind⟩, by kernel_rfl, hp170⟩
              · refine QOPS.batch 0 {} [] [0, 4, 7, 8, 10, 92] [.slice a n c, .slice a19 n20 c21, .slice a127 n128 c129, .int .i64 (k3 : Int), .int .i64 (j : Int), .bool b] hnehp160 (fun _ _ => QB.mk .nil (by kernel_rfl)) (fun b172 => ?_)
                refine QOPS.re [.slice a n c, .slice a19 n20 c21, .slice a127 n128 c129, .int .i64 (k3 : Int), .int .i64 (j : Int), .bool false] (by rw [show b = false from Bp.var.ff h164]) ?_
                have := own_flat (sz := 3) (fun _ => rfl) (by decide) hp160.get1
                have hy176 : (xs22)[j]? = some xs22[j]! := get_bang (by first | (omega) | (simp only [List.length_append, List.length_cons, List.length_nil]; omega) | (simp only [List.length_take, List.length_append, List.length_cons, List.length_nil]; omega))
                have hy178 : (l)[k3]? = some l[k3]! := get_bang (by first | (omega) | (simp only [List.length_append, List.length_cons, List.length_nil]; omega) | (simp only [List.length_take, List.length_append, List.length_cons, List.length_nil]; omega))
                refine QOPS.batch 13 { wraps := [104] } [.agg #[.int .i64 (xs22[j]!.Tag.Count), .int .i64 (xs22[j]!.Tag.Client)], .agg #[.int .i64 (l[k3]!.Tag.Count), .int .i64 (l[k3]!.Tag.Client)]] [0, 4, 7, 8, 9, 10] [.slice a n c, .slice a19 n20 c21, .slice a127 n128 c129, .int .i64 (k3 : Int), .bool ((decide ((xs22[j]!.Tag.Count) = (l[k3]!.Tag.Count))) && ((decide ((xs22[j]!.Tag.Client) = (l[k3]!.Tag.Client))) && true)), .int .i64 (j : Int)] hnehp160 (fun w173 hp174 => QB.mk (.cons (show InB ((j : Int)) (n20) from ⟨by omega, by omega⟩) (.cons ((SlR.own (hp174.get1)).some (by omega)) (.cons (Ld.elN (P := Try.prog) (t := 70) (SlR.own (hp174.get1)).rd 3 (fun _ => rfl) hy176 (o := 1) (cs := [.int .i64 (xs22[j]!.Tag.Count), .int .i64 (xs22[j]!.Tag.Client)]) (by kernel_rfl)) (.cons (show InB ((k3 : Int)) (n) from ⟨by omega, by omega⟩) (.cons ((hs.at hp174).some (by omega)) (.cons (Ld.elN (P := Try.prog) (t := 70) (hs.at hp174).rd 11 (fun _ => rfl) hy178 (o := 9) (cs := [.int .i64 (l[k3]!.Tag.Count), .int .i64 (l[k3]!.Tag.Client)]) (by kernel_rfl)) .nil)))))) (by kernel_rfl)) (fun b179 => ?_)
                refine QOPS.nil (fun w180 hp181 => ?_)
                refine blk_n ?_
                refine thn_n ?_
                refine WP.pure {} [] [0, 4, 7, 8, 9, 10] [.slice a n c, .slice a19 n20 c21, .slice a127 n128 c129, .int .i64 (k3 : Int), .bool ((decide ((xs22[j]!.Tag.Count) = (l[k3]!.Tag.Count))) && ((decide ((xs22[j]!.Tag.Client) = (l[k3]!.Tag.Client))) && true)), .int .i64 ((j : Int) + 1)] (.cons (show Rng .i64 ((j : Int) + 1) from Rng.i64 (by omega)) .nil) (by kernel_rfl) (fun b182 => ?_)
                refine thn_n ?_
                exact ⟨xs22.length - (j + 1), (by omega), j + 1, (decide ((xs22[j]!.Tag.Count) = (l[k3]!.Tag.Count))) && ((decide ((xs22[j]!.Tag.Client) = (l[k3]!.Tag.Client))) && true), rfl, ⟨by omega, by rw [show (_ = true ↔ _) from (Bp.band Bp.dec (Bp.band1 Bp.dec)), ex_step, ← fb, tagEq]; grind⟩, by kernel_rfl, hp181⟩
            · refine WP.exit ?_
              refine thn_x ?_
              refine thn_x ?_
              refine blk_hit ?_
              refine thn_n ?_
              refine WP.seq ?_
              refine WP.pure {} [] [0, 4, 7, 8, 106] [.slice a n c, .slice a19 n20 c21, .slice a127 n128 c129, .int .i64 (k3 : Int), .bool (!b)] .nil (by kernel_rfl) (fun b183 => ?_)
              refine thn_n ?_
              refine WP.test (p := ¬ (b = true)) rfl (Bp.not Bp.var) (fun h184 => ?_) (fun h184 => ?_)
              · refine WP.seq ?_
                refine WP.pure {} [] [2, 3] [.slice none 0 0, .int .i64 81] .nil (by kernel_rfl) (fun b185 => ?_)
                refine thn_n ?_
                refine WP.ret ?_
                refine blk_r ?_
                refine thn_r ?_
                refine thn_r ?_
                refine blk_r ?_
                refine thn_r ?_
                refine bodyQ.of _ rfl [.slice none 0 0, .int .i64 81] ⟨rfl, rfl, trivial⟩ ?_
                have hp186 := (show Hp w Non (Res.own 3 1 (.slice none 0 0) 0 (List.flatMap (fun (y : Int) => [Go.Value.int .i64 y]) ([] : List Int)) :: [Res.own 3 1 (.slice a127 n128 c129) n128 (List.flatMap (fun (y : Int) => [Go.Value.int .i64 y]) g132), Res.own 115 3 (.slice a19 n20 c21) n20 (List.flatMap Gsherdref21_Taken.cells xs22)]) w151 from hp152.nilOwn 3 1)
                exact ⟨none, 0, [], _, rfl, .inr (.inl ⟨h11, tk_bad3 hq23 (k := k3) (by omega) (by have h_ := h146; grind) (fun m hm e_ => by have h_ := fb.2 ⟨m, by omega, e_⟩; have h2_ := h184; grind), rfl, rfl⟩), hp186.sub (.cons_cons _ (List.nil_sublist _))⟩
              · replace h184 := Classical.not_not.1 h184
                refine WP.skip ?_
                refine blk_n ?_
                refine thn_n ?_
                refine WP.pure {} [] [0, 4, 7, 8] [.slice a n c, .slice a19 n20 c21, .slice a127 n128 c129, .int .i64 ((k3 : Int) + 1)] (.cons (show Rng .i64 ((k3 : Int) + 1) from Rng.i64 (by omega)) .nil) (by kernel_rfl) (fun b187 => ?_)
                refine thn_n ?_
                exact ⟨l.length - (k3 + 1), (by omega), k3 + 1, g132, a127, n128, c129, rfl, ⟨by omega, hg134, fun j hj hr_ => by by_cases e : j = k3; subst e; have h_ := fb; rw [show b = true from by have h2_ := h184; grind] at h_; obtain ⟨m, h3_, h4_⟩ := h_.1 rfl; exact ⟨m, by omega, h4_⟩; exact pc3 j (by omega) hr_⟩, by kernel_rfl, hp152⟩
        · refine WP.skip ?_
          refine thn_n ?_
          refine WP.seq ?_
          refine WP.seq ?_
          refine WP.region _ rfl (by kernel_rfl) ?_
          refine OPS.batch 4 {} [GCall.val (l[k3]!)] [0, 4, 7, 8, 82] [.slice a n c, .slice a19 n20 c21, .slice ao no co, .int .i64 (k3 : Int), GCall.val (l[k3]!)] (.cons (show InB ((k3 : Int)) (n) from ⟨by omega, by omega⟩) (.cons ((hs.at hp117).some (by omega)) (.cons (Ld.add0 (Ld.elN (P := Try.prog) (t := 73) (hs.at hp117).rd 11 (fun _ => rfl) hy111 (o := 0) (cs := [.int .i64 (l[k3]!.Client), .int .i64 (l[k3]!.Op), .bool (l[k3]!.Put), .string (l[k3]!.Key), .slice (l[k3]!.Value.a) (l[k3]!.Value.n) (l[k3]!.Value.c), .int .i64 (l[k3]!.Status), .int .i64 (l[k3]!.From), .int .i64 (l[k3]!.To), .bool (l[k3]!.Open), .int .i64 (l[k3]!.Tag.Count), .int .i64 (l[k3]!.Tag.Client)]) (by kernel_rfl))) .nil))) (by kernel_rfl) (fun b188 => ?_)
          refine OPS.cons (opStep.call (some 83) [GCall.val (l[k3]!)] (by kernel_rfl) (r21_read (l[k3]!) _) ?_)
          rintro _ w191 ⟨b194, rfl, hb195, hf192⟩
          refine ⟨_, rfl, ?_⟩
          have hp193 := hp117.step hf192
          refine OPS.batch 1 {} [] [0, 4, 7, 8, 84] [.slice a n c, .slice a19 n20 c21, .slice ao no co, .int .i64 (k3 : Int), .bool (!b194)] .nil (by kernel_rfl) (fun b196 => ?_)
          refine OPS.nil ?_
          refine thn_n ?_
          refine WP.test (p := ¬ (rdC (l[k3]!))) rfl (Bp.not hb195) (fun h197 => ?_) (fun h197 => ?_)
          · refine WP.exit ?_
            refine thn_x ?_
            refine blk_hit ?_
            refine thn_n ?_
            refine WP.pure {} [] [0, 4, 7, 8] [.slice a n c, .slice a19 n20 c21, .slice ao no co, .int .i64 ((k3 : Int) + 1)] (.cons (show Rng .i64 ((k3 : Int) + 1) from Rng.i64 (by omega)) .nil) (by kernel_rfl) (fun b198 => ?_)
            refine thn_n ?_
            exact ⟨l.length - (k3 + 1), (by omega), k3 + 1, os, ao, no, co, rfl, ⟨by omega, gtS_skip pb3 (fun q => h120 (gtS_abs.2 q)), fun j hj hr_ => by by_cases e : j = k3; subst e; exact absurd hr_ h197; exact pc3 j (by omega) hr_⟩, by kernel_rfl, hp193⟩
          · replace h197 := Classical.not_not.1 h197
            refine WP.skip ?_
            refine thn_n ?_
            refine WP.seq ?_
            refine WP.pure {} [] [0, 4, 7, 8, 9] [.slice a n c, .slice a19 n20 c21, .slice ao no co, .int .i64 (k3 : Int), .bool false] .nil (by kernel_rfl) (fun b199 => ?_)
            refine thn_n ?_
            refine WP.seq ?_
            refine WP.seq ?_
            refine WP.pure {} [] [0, 4, 7, 8, 9, 10] [.slice a n c, .slice a19 n20 c21, .slice ao no co, .int .i64 (k3 : Int), .bool false, .int .i64 0] .nil (by kernel_rfl) (fun b200 => ?_)
            refine thn_n ?_
            refine WP.block ?_
            refine WP.loop (fun mz_ e201 w202 => ∃ (j : Nat) (b : Bool), mz_ = xs22.length - j ∧ (j ≤ xs22.length ∧ (b = true ↔ ∃ m, m < j ∧ xs22[m]!.Tag = l[k3]!.Tag)) ∧ List.map e201 [0, 4, 7, 8, 9, 10] = [.slice a n c, .slice a19 n20 c21, .slice ao no co, .int .i64 (k3 : Int), .bool b, .int .i64 (j : Int)] ∧ Hp w Non [Res.own 3 1 (.slice ao no co) no (List.flatMap (fun (y : Int) => [Go.Value.int .i64 y]) os), Res.own 115 3 (.slice a19 n20 c21) n20 (List.flatMap Gsherdref21_Taken.cells xs22)] w202) (xs22.length - (0)) ⟨0, false, rfl, ⟨by omega, by simp⟩, by kernel_rfl, hp193⟩ ?_
            rintro _ e201 w202 ⟨j, b, rfl, hI204, hE205, hp203⟩
            obtain ⟨b206, rfl⟩ := toMk hE205
            clear hE205
            obtain ⟨fa, fb⟩ := hI204
            refine WP.seq ?_
            refine WP.seq ?_
            refine WP.pure {} [] [0, 4, 7, 8, 9, 10, 88] [.slice a n c, .slice a19 n20 c21, .slice ao no co, .int .i64 (k3 : Int), .bool b, .int .i64 (j : Int), .bool (decide ((j : Int) < ((n20 : Nat) : Int)))] .nil (by kernel_rfl) (fun b207 => ?_)
            refine thn_n ?_
            refine WP.test (p := (j : Int) < ((n20 : Nat) : Int)) rfl Bp.dec (fun h208 => ?_) (fun h208 => ?_)
            · refine WP.skip ?_
              refine thn_n ?_
              refine WP.seq ?_
              refine WP.block ?_
              have hp211 := hp203.drew
              refine WP.quiet (fun w209 => Hp w Non [Res.own 3 1 (.slice ao no co) no (List.flatMap (fun (y : Int) => [Go.Value.int .i64 y]) os), Res.own 115 3 (.slice a19 n20 c21) n20 (List.flatMap Gsherdref21_Taken.cells xs22)] w209) (by kernel_rfl) hp211 ?_
              have hnehp211 : ∃ wz_, (fun w209 => Hp w Non [Res.own 3 1 (.slice ao no co) no (List.flatMap (fun (y : Int) => [Go.Value.int .i64 y]) os), Res.own 115 3 (.slice a19 n20 c21) n20 (List.flatMap Gsherdref21_Taken.cells xs22)] w209) wz_ := ⟨_, hp211⟩
              refine QOPS.batch 2 {} [] [0, 4, 7, 8, 10, 92] [.slice a n c, .slice a19 n20 c21, .slice ao no co, .int .i64 (k3 : Int), .int .i64 (j : Int), .bool b] hnehp211 (fun w212 hp213 => QB.mk .nil (by kernel_rfl)) (fun b214 => ?_)
              by_cases h215 : b = true
              · refine QOPS.batch 0 {} [] [0, 4, 7, 8, 10, 92] [.slice a n c, .slice a19 n20 c21, .slice ao no co, .int .i64 (k3 : Int), .int .i64 (j : Int), .bool b] hnehp211 (fun _ _ => QB.mk .nil (by kernel_rfl)) (fun b216 => ?_)
                refine QOPS.re [.slice a n c, .slice a19 n20 c21, .slice ao no co, .int .i64 (k3 : Int), .int .i64 (j : Int), .bool true] (by rw [show b = true from Bp.var.tt h215]) ?_
                refine QOPS.batch 13 { wraps := [104] } [] [0, 4, 7, 8, 9, 10] [.slice a n c, .slice a19 n20 c21, .slice ao no co, .int .i64 (k3 : Int), .bool true, .int .i64 (j : Int)] hnehp211 (fun w217 hp218 => QB.mk .nil (by kernel_rfl)) (fun b219 => ?_)
                refine QOPS.nil (fun w220 hp221 => ?_)
                refine blk_n ?_
                refine thn_n ?_
                refine WP.pure {} [] [0, 4, 7, 8, 9, 10] [.slice a n c, .slice a19 n20 c21, .slice ao no co, .int .i64 (k3 : Int), .bool true, .int .i64 ((j : Int) + 1)] (.cons (show Rng .i64 ((j : Int) + 1) from Rng.i64 (by omega)) .nil) (by kernel_rfl) (fun b222 => ?_)
                refine thn_n ?_
                exact ⟨xs22.length - (j + 1), (by omega), j + 1, true, rfl, ⟨by omega, by rw [show (_ = true ↔ _) from Bp.t, ex_step, ← fb, tagEq]; grind⟩, by kernel_rfl, hp221⟩
              · refine QOPS.batch 0 {} [] [0, 4, 7, 8, 10, 92] [.slice a n c, .slice a19 n20 c21, .slice ao no co, .int .i64 (k3 : Int), .int .i64 (j : Int), .bool b] hnehp211 (fun _ _ => QB.mk .nil (by kernel_rfl)) (fun b223 => ?_)
                refine QOPS.re [.slice a n c, .slice a19 n20 c21, .slice ao no co, .int .i64 (k3 : Int), .int .i64 (j : Int), .bool false] (by rw [show b = false from Bp.var.ff h215]) ?_
                have := own_flat (sz := 3) (fun _ => rfl) (by decide) hp211.get1
                have hy227 : (xs22)[j]? = some xs22[j]! := get_bang (by first | (omega) | (simp only [List.length_append, List.length_cons, List.length_nil]; omega) | (simp only [List.length_take, List.length_append, List.length_cons, List.length_nil]; omega))
                have hy229 : (l)[k3]? = some l[k3]! := get_bang (by first | (omega) | (simp only [List.length_append, List.length_cons, List.length_nil]; omega) | (simp only [List.length_take, List.length_append, List.length_cons, List.length_nil]; omega))
                refine QOPS.batch 13 { wraps := [104] } [.agg #[.int .i64 (xs22[j]!.Tag.Count), .int .i64 (xs22[j]!.Tag.Client)], .agg #[.int .i64 (l[k3]!.Tag.Count), .int .i64 (l[k3]!.Tag.Client)]] [0, 4, 7, 8, 9, 10] [.slice a n c, .slice a19 n20 c21, .slice ao no co, .int .i64 (k3 : Int), .bool ((decide ((xs22[j]!.Tag.Count) = (l[k3]!.Tag.Count))) && ((decide ((xs22[j]!.Tag.Client) = (l[k3]!.Tag.Client))) && true)), .int .i64 (j : Int)] hnehp211 (fun w224 hp225 => QB.mk (.cons (show InB ((j : Int)) (n20) from ⟨by omega, by omega⟩) (.cons ((SlR.own (hp225.get1)).some (by omega)) (.cons (Ld.elN (P := Try.prog) (t := 70) (SlR.own (hp225.get1)).rd 3 (fun _ => rfl) hy227 (o := 1) (cs := [.int .i64 (xs22[j]!.Tag.Count), .int .i64 (xs22[j]!.Tag.Client)]) (by kernel_rfl)) (.cons (show InB ((k3 : Int)) (n) from ⟨by omega, by omega⟩) (.cons ((hs.at hp225).some (by omega)) (.cons (Ld.elN (P := Try.prog) (t := 70) (hs.at hp225).rd 11 (fun _ => rfl) hy229 (o := 9) (cs := [.int .i64 (l[k3]!.Tag.Count), .int .i64 (l[k3]!.Tag.Client)]) (by kernel_rfl)) .nil)))))) (by kernel_rfl)) (fun b230 => ?_)
                refine QOPS.nil (fun w231 hp232 => ?_)
                refine blk_n ?_
                refine thn_n ?_
                refine WP.pure {} [] [0, 4, 7, 8, 9, 10] [.slice a n c, .slice a19 n20 c21, .slice ao no co, .int .i64 (k3 : Int), .bool ((decide ((xs22[j]!.Tag.Count) = (l[k3]!.Tag.Count))) && ((decide ((xs22[j]!.Tag.Client) = (l[k3]!.Tag.Client))) && true)), .int .i64 ((j : Int) + 1)] (.cons (show Rng .i64 ((j : Int) + 1) from Rng.i64 (by omega)) .nil) (by kernel_rfl) (fun b233 => ?_)
                refine thn_n ?_
                exact ⟨xs22.length - (j + 1), (by omega), j + 1, (decide ((xs22[j]!.Tag.Count) = (l[k3]!.Tag.Count))) && ((decide ((xs22[j]!.Tag.Client) = (l[k3]!.Tag.Client))) && true), rfl, ⟨by omega, by rw [show (_ = true ↔ _) from (Bp.band Bp.dec (Bp.band1 Bp.dec)), ex_step, ← fb, tagEq]; grind⟩, by kernel_rfl, hp232⟩
            · refine WP.exit ?_
              refine thn_x ?_
              refine thn_x ?_
              refine blk_hit ?_
              refine thn_n ?_
              refine WP.seq ?_
              refine WP.pure {} [] [0, 4, 7, 8, 106] [.slice a n c, .slice a19 n20 c21, .slice ao no co, .int .i64 (k3 : Int), .bool (!b)] .nil (by kernel_rfl) (fun b234 => ?_)
              refine thn_n ?_
              refine WP.test (p := ¬ (b = true)) rfl (Bp.not Bp.var) (fun h235 => ?_) (fun h235 => ?_)
              · refine WP.seq ?_
                refine WP.pure {} [] [2, 3] [.slice none 0 0, .int .i64 81] .nil (by kernel_rfl) (fun b236 => ?_)
                refine thn_n ?_
                refine WP.ret ?_
                refine blk_r ?_
                refine thn_r ?_
                refine thn_r ?_
                refine blk_r ?_
                refine thn_r ?_
                refine bodyQ.of _ rfl [.slice none 0 0, .int .i64 81] ⟨rfl, rfl, trivial⟩ ?_
                have hp237 := (show Hp w Non (Res.own 3 1 (.slice none 0 0) 0 (List.flatMap (fun (y : Int) => [Go.Value.int .i64 y]) ([] : List Int)) :: [Res.own 3 1 (.slice ao no co) no (List.flatMap (fun (y : Int) => [Go.Value.int .i64 y]) os), Res.own 115 3 (.slice a19 n20 c21) n20 (List.flatMap Gsherdref21_Taken.cells xs22)]) w202 from hp203.nilOwn 3 1)
                exact ⟨none, 0, [], _, rfl, .inr (.inl ⟨h11, tk_bad3 hq23 (k := k3) (by omega) (by have h_ := h197; grind) (fun m hm e_ => by have h_ := fb.2 ⟨m, by omega, e_⟩; have h2_ := h235; grind), rfl, rfl⟩), hp237.sub (.cons_cons _ (List.nil_sublist _))⟩
              · replace h235 := Classical.not_not.1 h235
                refine WP.skip ?_
                refine blk_n ?_
                refine thn_n ?_
                refine WP.pure {} [] [0, 4, 7, 8] [.slice a n c, .slice a19 n20 c21, .slice ao no co, .int .i64 ((k3 : Int) + 1)] (.cons (show Rng .i64 ((k3 : Int) + 1) from Rng.i64 (by omega)) .nil) (by kernel_rfl) (fun b238 => ?_)
                refine thn_n ?_
                exact ⟨l.length - (k3 + 1), (by omega), k3 + 1, os, ao, no, co, rfl, ⟨by omega, gtS_skip pb3 (fun q => h120 (gtS_abs.2 q)), fun j hj hr_ => by by_cases e : j = k3; subst e; have h_ := fb; rw [show b = true from by have h2_ := h235; grind] at h_; obtain ⟨m, h3_, h4_⟩ := h_.1 rfl; exact ⟨m, by omega, h4_⟩; exact pc3 j (by omega) hr_⟩, by kernel_rfl, hp203⟩
      · refine WP.exit ?_
        refine thn_x ?_
        refine thn_x ?_
        refine blk_hit ?_
        refine thn_n ?_
        refine WP.seq ?_
        refine WP.region _ rfl (by kernel_rfl) ?_
        refine OPS.batch 2 {} [] [0, 4, 7, 108] [.slice a n c, .slice a19 n20 c21, .slice ao no co, .int .i64 ((n20 : Nat) : Int)] .nil (by kernel_rfl) (fun b239 => ?_)
        refine OPS.cons (opStep.makeSlice (f := (fun y => [.bool y])) (E := 4) (sz := 1) (bytes := 1) (n := n20) false hp102 (by kernel_rfl) (by decide) (by kernel_rfl) (by omega) (by unfold maxLen; omega) (fun g242 w240 hp241 => ?_))
        refine OPS.batch 1 {} [] [0, 4, 7, 11] [.slice a n c, .slice a19 n20 c21, .slice ao no co, .slice (some ⟨g242, 0, none⟩) n20 n20] .nil (by kernel_rfl) (fun b243 => ?_)
        refine OPS.nil ?_
        refine thn_n ?_
        refine WP.seq ?_
        refine WP.seq ?_
        refine WP.pure {} [] [0, 4, 7, 11, 12] [.slice a n c, .slice a19 n20 c21, .slice ao no co, .slice (some ⟨g242, 0, none⟩) n20 n20, .int .i64 0] .nil (by kernel_rfl) (fun b244 => ?_)
        refine thn_n ?_
        refine WP.block ?_
        obtain rfl : k3 = l.length := by omega
        refine WP.loop (fun mz_ e245 w246 => ∃ (n4 : Nat) (dn : List Bool) (qs : List Int) (out : List Int) (ao4 : Option Addr) (no4 : Nat) (co4 : Nat), mz_ = xs22.length - n4 ∧ (n4 ≤ xs22.length ∧ selS xs22 n4 dn qs ∧ byL l (tmM xs22) qs n4 out ∧ out.length ≤ (n4 + 1) * 1048577 ∧ ∀ y ∈ out, 0 ≤ y ∧ y < (l.length : Int)) ∧ List.map e245 [0, 4, 7, 11, 12] = [.slice a n c, .slice a19 n20 c21, .slice ao4 no4 co4, .slice (some ⟨g242, 0, none⟩) n20 n20, .int .i64 (n4 : Int)] ∧ Hp w Non [Res.own 4 1 (.slice (some ⟨g242, 0, none⟩) n20 n20) n20 (List.flatMap (fun y => [.bool y]) dn), Res.own 3 1 (.slice ao4 no4 co4) no4 (List.flatMap (fun (y : Int) => [Go.Value.int .i64 y]) out), Res.own 115 3 (.slice a19 n20 c21) n20 (List.flatMap Gsherdref21_Taken.cells xs22)] w246) (xs22.length - (0)) ⟨0, List.replicate n20 false, [], os, ao, no, co, rfl, ⟨by omega, sel_start _ (by omega), .zero (gtS_end pb3), by omega, gtS_in pb3 (Nat.le_refl _)⟩, by kernel_rfl, hp241⟩ ?_
        rintro _ e245 w246 ⟨n4, dn, qs, out, ao4, no4, co4, rfl, hI248, hE249, hp247⟩
        obtain ⟨b250, rfl⟩ := toMk hE249
        clear hE249
        obtain ⟨p4a, p4b, p4c, p4d, p4e⟩ := hI248
        have pdn := p4b.1
        have p4f := own_flat (sz := 1) (fun _ => rfl) (by decide) hp247.get1
        refine WP.seq ?_
        refine WP.seq ?_
        refine WP.pure {} [] [0, 4, 7, 11, 12, 113] [.slice a n c, .slice a19 n20 c21, .slice ao4 no4 co4, .slice (some ⟨g242, 0, none⟩) n20 n20, .int .i64 (n4 : Int), .bool (decide ((n4 : Int) < ((n20 : Nat) : Int)))] .nil (by kernel_rfl) (fun b251 => ?_)
        refine thn_n ?_
        refine WP.test (p := (n4 : Int) < ((n20 : Nat) : Int)) rfl Bp.dec (fun h252 => ?_) (fun h252 => ?_)
        · refine WP.skip ?_
          refine thn_n ?_
          refine WP.seq ?_
          refine WP.block ?_
          refine WP.seq ?_
          refine WP.pure {} [] [0, 4, 7, 11, 12, 13] [.slice a n c, .slice a19 n20 c21, .slice ao4 no4 co4, .slice (some ⟨g242, 0, none⟩) n20 n20, .int .i64 (n4 : Int), .int .i64 (-1)] .nil (by kernel_rfl) (fun b253 => ?_)
          refine thn_n ?_
          refine WP.seq ?_
          refine WP.seq ?_
          refine WP.pure {} [] [0, 4, 7, 11, 12, 13, 14] [.slice a n c, .slice a19 n20 c21, .slice ao4 no4 co4, .slice (some ⟨g242, 0, none⟩) n20 n20, .int .i64 (n4 : Int), .int .i64 (-1), .int .i64 0] .nil (by kernel_rfl) (fun b254 => ?_)
          refine thn_n ?_
          refine WP.block ?_
          refine WP.loop (fun mz_ e255 w256 => ∃ (j5 : Nat) (la : Int), mz_ = xs22.length - j5 ∧ (j5 ≤ xs22.length ∧ lstS xs22 dn j5 la) ∧ List.map e255 [0, 4, 7, 11, 12, 13, 14] = [.slice a n c, .slice a19 n20 c21, .slice ao4 no4 co4, .slice (some ⟨g242, 0, none⟩) n20 n20, .int .i64 (n4 : Int), .int .i64 la, .int .i64 (j5 : Int)] ∧ Hp w Non [Res.own 4 1 (.slice (some ⟨g242, 0, none⟩) n20 n20) n20 (List.flatMap (fun y => [.bool y]) dn), Res.own 3 1 (.slice ao4 no4 co4) no4 (List.flatMap (fun (y : Int) => [Go.Value.int .i64 y]) out), Res.own 115 3 (.slice a19 n20 c21) n20 (List.flatMap Gsherdref21_Taken.cells xs22)] w256) (xs22.length - (0)) ⟨0, (-1), rfl, ⟨by omega, .inl ⟨rfl, fun i hi => by omega⟩⟩, by kernel_rfl, hp247⟩ ?_
          rintro _ e255 w256 ⟨j5, la, rfl, hI258, hE259, hp257⟩
          obtain ⟨b260, rfl⟩ := toMk hE259
          clear hE259
          obtain ⟨p5a, p5b⟩ := hI258
          have p5c := lst_rng p5b p5a
          refine WP.seq ?_
          refine WP.seq ?_
          refine WP.pure {} [] [0, 4, 7, 11, 12, 13, 14, 119] [.slice a n c, .slice a19 n20 c21, .slice ao4 no4 co4, .slice (some ⟨g242, 0, none⟩) n20 n20, .int .i64 (n4 : Int), .int .i64 la, .int .i64 (j5 : Int), .bool (decide ((j5 : Int) < ((n20 : Nat) : Int)))] .nil (by kernel_rfl) (fun b261 => ?_)
          refine thn_n ?_
          refine WP.test (p := (j5 : Int) < ((n20 : Nat) : Int)) rfl Bp.dec (fun h262 => ?_) (fun h262 => ?_)
          · refine WP.skip ?_
            refine thn_n ?_
            refine WP.seq ?_
            refine WP.block ?_
            refine WP.cut (fun e307 w308 => ∃ (x305 : Bool), (True) ∧ Bp x305 (((¬ ((dn[j5]!) = true)) ∧ (la < 0)) ∨ ((¬ ((dn[j5]!) = true)) ∧ (¬ (la < 0)) ∧ ((tagCmp xs22[j5]!.Tag xs22[(la : Int).toNat]!.Tag) < 0))) ∧ List.map e307 [0, 4, 7, 11, 12, 13, 14, 144] = [.slice a n c, .slice a19 n20 c21, .slice ao4 no4 co4, .slice (some ⟨g242, 0, none⟩) n20 n20, .int .i64 (n4 : Int), .int .i64 la, .int .i64 (j5 : Int), .bool x305] ∧ Hp w Non [Res.own 4 1 (.slice (some ⟨g242, 0, none⟩) n20 n20) n20 (List.flatMap (fun y => [.bool y]) dn), Res.own 3 1 (.slice ao4 no4 co4) no4 (List.flatMap (fun (y : Int) => [Go.Value.int .i64 y]) out), Res.own 115 3 (.slice a19 n20 c21) n20 (List.flatMap Gsherdref21_Taken.cells xs22)] w308) ?_ ?_
            · have hp266 := hp257.drew
              refine WP.quiet (fun w264 => Hp w Non [Res.own 4 1 (.slice (some ⟨g242, 0, none⟩) n20 n20) n20 (List.flatMap (fun y => [.bool y]) dn), Res.own 3 1 (.slice ao4 no4 co4) no4 (List.flatMap (fun (y : Int) => [Go.Value.int .i64 y]) out), Res.own 115 3 (.slice a19 n20 c21) n20 (List.flatMap Gsherdref21_Taken.cells xs22)] w264) (by kernel_rfl) hp266 ?_
              have hnehp266 : ∃ wz_, (fun w264 => Hp w Non [Res.own 4 1 (.slice (some ⟨g242, 0, none⟩) n20 n20) n20 (List.flatMap (fun y => [.bool y]) dn), Res.own 3 1 (.slice ao4 no4 co4) no4 (List.flatMap (fun (y : Int) => [Go.Value.int .i64 y]) out), Res.own 115 3 (.slice a19 n20 c21) n20 (List.flatMap Gsherdref21_Taken.cells xs22)] w264) wz_ := ⟨_, hp266⟩
              have := own_flat (sz := 1) (fun _ => rfl) (by decide) hp266.get0
              have hy270 : (dn)[j5]? = some dn[j5]! := get_bang (by first | (omega) | (simp only [List.length_append, List.length_cons, List.length_nil]; omega) | (simp only [List.length_take, List.length_append, List.length_cons, List.length_nil]; omega))
              refine QOPS.batch 6 {} [.bool (dn[j5]!)] [0, 4, 7, 11, 12, 13, 14, 127] [.slice a n c, .slice a19 n20 c21, .slice ao4 no4 co4, .slice (some ⟨g242, 0, none⟩) n20 n20, .int .i64 (n4 : Int), .int .i64 la, .int .i64 (j5 : Int), .bool (!(dn[j5]!))] hnehp266 (fun w267 hp268 => QB.mk (.cons (show InB ((j5 : Int)) (n20) from ⟨by omega, by omega⟩) (.cons ((SlR.own (hp268.get0)).some (by omega)) (.cons (Ld.add0 (Ld.el1 (P := Try.prog) (t := 4) (SlR.own (hp268.get0)).rd 1 (fun _ => rfl) hy270 (o := 0) (v := .bool (dn[j5]!)) (by kernel_rfl))) .nil))) (by kernel_rfl)) (fun b271 => ?_)
              by_cases h272 : (dn[j5]!) = true
              · refine QOPS.batch 0 {} [] [0, 4, 7, 11, 12, 13, 14, 127] [.slice a n c, .slice a19 n20 c21, .slice ao4 no4 co4, .slice (some ⟨g242, 0, none⟩) n20 n20, .int .i64 (n4 : Int), .int .i64 la, .int .i64 (j5 : Int), .bool (!(dn[j5]!))] hnehp266 (fun _ _ => QB.mk .nil (by kernel_rfl)) (fun b299 => ?_)
                refine QOPS.re [.slice a n c, .slice a19 n20 c21, .slice ao4 no4 co4, .slice (some ⟨g242, 0, none⟩) n20 n20, .int .i64 (n4 : Int), .int .i64 la, .int .i64 (j5 : Int), .bool false] (by rw [show (!(dn[j5]!)) = false from (Bp.not Bp.var).ff (fun k => k h272)]) ?_
                refine QOPS.batch 17 { wraps := [144] } [] [0, 4, 7, 11, 12, 13, 14, 144] [.slice a n c, .slice a19 n20 c21, .slice ao4 no4 co4, .slice (some ⟨g242, 0, none⟩) n20 n20, .int .i64 (n4 : Int), .int .i64 la, .int .i64 (j5 : Int), .bool false] hnehp266 (fun w300 hp301 => QB.mk .nil (by kernel_rfl)) (fun b302 => ?_)
                refine QOPS.nil (fun w303 hp304 => ?_)
                refine thn_n ?_
                exact ⟨false, trivial, Bp.of Bp.f (by first | (simp only [h272, iff_false, false_iff, iff_true, true_iff, Classical.not_not, and_true, true_and, and_false, false_and, or_true, true_or, or_false, false_or, not_true_eq_false, not_false_eq_true, and_self, or_self, iff_self]; done) | (simp [h272]; done) | grind | (simp_all; done)), by kernel_rfl, hp304⟩
              · refine QOPS.batch 0 {} [] [0, 4, 7, 11, 12, 13, 14, 127] [.slice a n c, .slice a19 n20 c21, .slice ao4 no4 co4, .slice (some ⟨g242, 0, none⟩) n20 n20, .int .i64 (n4 : Int), .int .i64 la, .int .i64 (j5 : Int), .bool (!(dn[j5]!))] hnehp266 (fun _ _ => QB.mk .nil (by kernel_rfl)) (fun b273 => ?_)
                refine QOPS.re [.slice a n c, .slice a19 n20 c21, .slice ao4 no4 co4, .slice (some ⟨g242, 0, none⟩) n20 n20, .int .i64 (n4 : Int), .int .i64 la, .int .i64 (j5 : Int), .bool true] (by rw [show (!(dn[j5]!)) = true from (Bp.not Bp.var).tt h272]) ?_
                refine QOPS.batch 3 {} [] [0, 4, 7, 11, 12, 13, 14, 127, 130] [.slice a n c, .slice a19 n20 c21, .slice ao4 no4 co4, .slice (some ⟨g242, 0, none⟩) n20 n20, .int .i64 (n4 : Int), .int .i64 la, .int .i64 (j5 : Int), .bool true, .bool (decide (la < 0))] hnehp266 (fun w274 hp275 => QB.mk .nil (by kernel_rfl)) (fun b276 => ?_)
                by_cases h277 : la < 0
                · refine QOPS.batch 0 {} [] [0, 4, 7, 11, 12, 13, 14, 127, 130] [.slice a n c, .slice a19 n20 c21, .slice ao4 no4 co4, .slice (some ⟨g242, 0, none⟩) n20 n20, .int .i64 (n4 : Int), .int .i64 la, .int .i64 (j5 : Int), .bool true, .bool (decide (la < 0))] hnehp266 (fun _ _ => QB.mk .nil (by kernel_rfl)) (fun b278 => ?_)
                  refine QOPS.re [.slice a n c, .slice a19 n20 c21, .slice ao4 no4 co4, .slice (some ⟨g242, 0, none⟩) n20 n20, .int .i64 (n4 : Int), .int .i64 la, .int .i64 (j5 : Int), .bool true, .bool true] (by rw [show (decide (la < 0)) = true from Bp.dec.tt h277]) ?_
                  refine QOPS.batch 14 { wraps := [143, 144] } [] [0, 4, 7, 11, 12, 13, 14, 144] [.slice a n c, .slice a19 n20 c21, .slice ao4 no4 co4, .slice (some ⟨g242, 0, none⟩) n20 n20, .int .i64 (n4 : Int), .int .i64 la, .int .i64 (j5 : Int), .bool true] hnehp266 (fun w279 hp280 => QB.mk .nil (by kernel_rfl)) (fun b281 => ?_)
                  refine QOPS.nil (fun w282 hp283 => ?_)
                  refine thn_n ?_
                  exact ⟨true, trivial, Bp.of Bp.t (by first | (simp only [h272, h277, iff_false, false_iff, iff_true, true_iff, Classical.not_not, and_true, true_and, and_false, false_and, or_true, true_or, or_false, false_or, not_true_eq_false, not_false_eq_true, and_self, or_self, iff_self]; done) | (simp [h272, h277]; done) | grind | (simp_all; done)), by kernel_rfl, hp283⟩
                · refine QOPS.batch 0 {} [] [0, 4, 7, 11, 12, 13, 14, 127, 130] [.slice a n c, .slice a19 n20 c21, .slice ao4 no4 co4, .slice (some ⟨g242, 0, none⟩) n20 n20, .int .i64 (n4 : Int), .int .i64 la, .int .i64 (j5 : Int), .bool true, .bool (decide (la < 0))] hnehp266 (fun _ _ => QB.mk .nil (by kernel_rfl)) (fun b284 => ?_)
                  refine QOPS.re [.slice a n c, .slice a19 n20 c21, .slice ao4 no4 co4, .slice (some ⟨g242, 0, none⟩) n20 n20, .int .i64 (n4 : Int), .int .i64 la, .int .i64 (j5 : Int), .bool true, .bool false] (by rw [show (decide (la < 0)) = false from Bp.dec.ff h277]) ?_
                  have := own_flat (sz := 3) (fun _ => rfl) (by decide) hp266.get2
                  have hy288 : (xs22)[j5]? = some xs22[j5]! := get_bang (by first | (omega) | (simp only [List.length_append, List.length_cons, List.length_nil]; omega) | (simp only [List.length_take, List.length_append, List.length_cons, List.length_nil]; omega))
                  have := own_flat (sz := 3) (fun _ => rfl) (by decide) hp266.get2
                  have hy290 : (xs22)[(la : Int).toNat]? = some xs22[(la : Int).toNat]! := get_bang (by first | (omega) | (simp only [List.length_append, List.length_cons, List.length_nil]; omega) | (simp only [List.length_take, List.length_append, List.length_cons, List.length_nil]; omega))
                  refine QOPS.batch 10 {} [.agg #[.int .i64 (xs22[j5]!.Tag.Count), .int .i64 (xs22[j5]!.Tag.Client)], .agg #[.int .i64 (xs22[(la : Int).toNat]!.Tag.Count), .int .i64 (xs22[(la : Int).toNat]!.Tag.Client)]] [0, 4, 7, 11, 12, 13, 14, 127, 130, 135, 140] [.slice a n c, .slice a19 n20 c21, .slice ao4 no4 co4, .slice (some ⟨g242, 0, none⟩) n20 n20, .int .i64 (n4 : Int), .int .i64 la, .int .i64 (j5 : Int), .bool true, .bool false, .agg #[.int .i64 (xs22[j5]!.Tag.Count), .int .i64 (xs22[j5]!.Tag.Client)], .agg #[.int .i64 (xs22[(la : Int).toNat]!.Tag.Count), .int .i64 (xs22[(la : Int).toNat]!.Tag.Client)]] hnehp266 (fun w285 hp286 => QB.mk (.cons (show InB ((j5 : Int)) (n20) from ⟨by omega, by omega⟩) (.cons ((SlR.own (hp286.get2)).some (by omega)) (.cons (Ld.elN (P := Try.prog) (t := 70) (SlR.own (hp286.get2)).rd 3 (fun _ => rfl) hy288 (o := 1) (cs := [.int .i64 (xs22[j5]!.Tag.Count), .int .i64 (xs22[j5]!.Tag.Client)]) (by kernel_rfl)) (.cons (show InB (la) (n20) from ⟨by omega, by omega⟩) (.cons ((SlR.own (hp286.get2)).some (by omega)) (.cons (Ld.elN (P := Try.prog) (t := 70) (SlR.own (hp286.get2)).rd 3 (fun _ => rfl) hy290 (o := 1) (cs := [.int .i64 (xs22[(la : Int).toNat]!.Tag.Count), .int .i64 (xs22[(la : Int).toNat]!.Tag.Client)]) (by kernel_rfl)) .nil)))))) (by kernel_rfl)) (fun b291 => ?_)
                  refine QOPS.call (some 141) [.agg #[.int .i64 (xs22[j5]!.Tag.Count), .int .i64 (xs22[j5]!.Tag.Client)], .agg #[.int .i64 (xs22[(la : Int).toNat]!.Tag.Count), .int .i64 (xs22[(la : Int).toNat]!.Tag.Client)]] (by kernel_rfl) (fun w292 hp293 => (r8_Compare xs22[j5]!.Tag xs22[(la : Int).toNat]!.Tag _).mono fun _ _ h => ⟨h.1, hp293.step h.2⟩) ?_
                  refine QOPS.batch 3 { wraps := [143, 144] } [] [0, 4, 7, 11, 12, 13, 14, 144] [.slice a n c, .slice a19 n20 c21, .slice ao4 no4 co4, .slice (some ⟨g242, 0, none⟩) n20 n20, .int .i64 (n4 : Int), .int .i64 la, .int .i64 (j5 : Int), .bool (decide ((tagCmp xs22[j5]!.Tag xs22[(la : Int).toNat]!.Tag) < 0))] hnehp266 (fun w294 hp295 => QB.mk .nil (by kernel_rfl)) (fun b296 => ?_)
                  refine QOPS.nil (fun w297 hp298 => ?_)
                  refine thn_n ?_
                  exact ⟨decide ((tagCmp xs22[j5]!.Tag xs22[(la : Int).toNat]!.Tag) < 0), trivial, Bp.of Bp.dec (by first | (simp only [h272, h277, iff_false, false_iff, iff_true, true_iff, Classical.not_not, and_true, true_and, and_false, false_and, or_true, true_or, or_false, false_or, not_true_eq_false, not_false_eq_true, and_self, or_self, iff_self]; done) | (simp [h272, h277]; done) | grind | (simp_all; done)), by kernel_rfl, hp298⟩
            rintro e307 w308 ⟨x305, hd310, hb306, hE311, hp309⟩
            obtain ⟨b312, rfl⟩ := toMk hE311
            clear hE311
            clear hd310
            refine WP.test (p := ((¬ ((dn[j5]!) = true)) ∧ (la < 0)) ∨ ((¬ ((dn[j5]!) = true)) ∧ (¬ (la < 0)) ∧ ((tagCmp xs22[j5]!.Tag xs22[(la : Int).toNat]!.Tag) < 0))) rfl hb306 (fun h313 => ?_) (fun h313 => ?_)
            · refine WP.pure {} [] [0, 4, 7, 11, 12, 13, 14] [.slice a n c, .slice a19 n20 c21, .slice ao4 no4 co4, .slice (some ⟨g242, 0, none⟩) n20 n20, .int .i64 (n4 : Int), .int .i64 (j5 : Int), .int .i64 (j5 : Int)] .nil (by kernel_rfl) (fun b314 => ?_)
              refine blk_n ?_
              refine thn_n ?_
              refine WP.pure {} [] [0, 4, 7, 11, 12, 13, 14] [.slice a n c, .slice a19 n20 c21, .slice ao4 no4 co4, .slice (some ⟨g242, 0, none⟩) n20 n20, .int .i64 (n4 : Int), .int .i64 (j5 : Int), .int .i64 ((j5 : Int) + 1)] (.cons (show Rng .i64 ((j5 : Int) + 1) from Rng.i64 (by omega)) .nil) (by kernel_rfl) (fun b315 => ?_)
              refine thn_n ?_
              exact ⟨xs22.length - (j5 + 1), (by omega), j5 + 1, (j5 : Int), rfl, ⟨by omega, lst_take p5b (by have h_ := h313; grind) (by have h_ := h313; grind)⟩, by kernel_rfl, hp309⟩
            · refine WP.skip ?_
              refine blk_n ?_
              refine thn_n ?_
              refine WP.pure {} [] [0, 4, 7, 11, 12, 13, 14] [.slice a n c, .slice a19 n20 c21, .slice ao4 no4 co4, .slice (some ⟨g242, 0, none⟩) n20 n20, .int .i64 (n4 : Int), .int .i64 la, .int .i64 ((j5 : Int) + 1)] (.cons (show Rng .i64 ((j5 : Int) + 1) from Rng.i64 (by omega)) .nil) (by kernel_rfl) (fun b316 => ?_)
              refine thn_n ?_
              exact ⟨xs22.length - (j5 + 1), (by omega), j5 + 1, la, rfl, ⟨by omega, lst_leave p5b (by have h_ := h313; grind)⟩, by kernel_rfl, hp309⟩
          · refine WP.exit ?_
            refine thn_x ?_
            refine thn_x ?_
            refine blk_hit ?_
            refine thn_n ?_
            refine WP.seq ?_
            obtain rfl : j5 = xs22.length := by omega
            obtain ⟨a5, h5a, rfl, h5c, h5d⟩ := lst_end p4b (by omega) p5b
            refine WP.region _ rfl (by kernel_rfl) ?_
            refine OPS.batch 3 {} [] [0, 4, 7, 11, 12, 13, 148] [.slice a n c, .slice a19 n20 c21, .slice ao4 no4 co4, .slice (some ⟨g242, 0, none⟩) n20 n20, .int .i64 (n4 : Int), .int .i64 ((a5 : Nat) : Int), .pointer (some ((adr (some ⟨g242, 0, none⟩)).add (a5 * 1)))] (.cons (show InB (((a5 : Nat) : Int)) (n20) from ⟨by omega, by omega⟩) (.cons ((SlR.own (hp257.get0)).some (by omega)) .nil)) (by kernel_rfl) (fun b317 => ?_)
            have := own_flat (sz := 1) (fun _ => rfl) (by decide) hp257.get0
            try simp only [List.length_set] at this
            refine OPS.cons (opStep.storeOwn0 (a5 * 1) hp257 rfl [.bool true] (by kernel_rfl) (by simp) (show a5 * 1 + 1 ≤ n20 * 1 by omega) (fun w318 hp319 => ?_))
            have hp320 := hp319
            rw [show ow (List.flatMap (fun y => [.bool y]) dn) (a5 * 1) [.bool true] = List.flatMap (fun y => [.bool y]) (dn.set a5 true) from ow_flat (sz := 1) (fun _ => rfl) (by first | (omega) | (simp only [List.length_set]; omega)) true] at hp320
            refine OPS.nil ?_
            refine thn_n ?_
            refine WP.seq ?_
            refine WP.region _ rfl (by kernel_rfl) ?_
            have := own_flat (sz := 3) (fun _ => rfl) (by decide) hp320.get2
            have hy324 : (xs22)[a5]? = some xs22[a5]! := get_bang (by first | (omega) | (simp only [List.length_append, List.length_cons, List.length_nil]; omega) | (simp only [List.length_take, List.length_append, List.length_cons, List.length_nil]; omega))
            refine OPS.batch 6 {} [.int .i64 (xs22[a5]!.Call)] [0, 4, 11, 12, 13, 149, 154] [.slice a n c, .slice a19 n20 c21, .slice (some ⟨g242, 0, none⟩) n20 n20, .int .i64 (n4 : Int), .int .i64 ((a5 : Nat) : Int), .slice ao4 no4 co4, .int .i64 (xs22[a5]!.Call)] (.cons (show InB (((a5 : Nat) : Int)) (n20) from ⟨by omega, by omega⟩) (.cons ((SlR.own (hp320.get2)).some (by omega)) (.cons (Ld.add0 (Ld.el1 (P := Try.prog) (t := 3) (SlR.own (hp320.get2)).rd 3 (fun _ => rfl) hy324 (o := 0) (v := .int .i64 (xs22[a5]!.Call)) (by kernel_rfl))) .nil))) (by kernel_rfl) (fun b325 => ?_)
            refine OPS.cons (opStep.buildSlice (E := 3) hp320 [.int .i64 (xs22[a5]!.Call)] (by kernel_rfl) (fun g328 w326 hp327 => ?_))
            refine OPS.cons (opStep.append2 [.int .i64 (xs22[a5]!.Call)] hp327 8 (by kernel_rfl) rfl rfl rfl (SlR.row (n := 1) hp327.get0 rfl).rd (List.all_eq_true.1 (by kernel_rfl)) (by decide) (by omega) (by omega) (fun a331 c332 w333 hp334 hn335 => ?_))
            rw [(show List.flatMap (fun (y : Int) => [Go.Value.int .i64 y]) out ++ [.int .i64 (xs22[a5]!.Call)] = List.flatMap (fun (y : Int) => [Go.Value.int .i64 y]) (out ++ [xs22[a5]!.Call]) from (List.flatMap_append (xs := out) (ys := [xs22[a5]!.Call])).symm)] at hp334
            refine OPS.batch 1 {} [] [0, 4, 7, 11, 12, 13] [.slice a n c, .slice a19 n20 c21, .slice a331 (no4 + 1) c332, .slice (some ⟨g242, 0, none⟩) n20 n20, .int .i64 (n4 : Int), .int .i64 ((a5 : Nat) : Int)] .nil (by kernel_rfl) (fun b336 => ?_)
            refine OPS.nil ?_
            refine thn_n ?_
            refine WP.seq ?_
            refine WP.pure {} [] [0, 4, 7, 11, 12, 13, 15] [.slice a n c, .slice a19 n20 c21, .slice a331 (no4 + 1) c332, .slice (some ⟨g242, 0, none⟩) n20 n20, .int .i64 (n4 : Int), .int .i64 ((a5 : Nat) : Int), .int .i64 ((no4 + 1 : Nat) : Int)] .nil (by kernel_rfl) (fun b337 => ?_)
            refine thn_n ?_
            refine WP.seq ?_
            refine WP.pure {} [] [0, 4, 7, 11, 12, 13, 15, 16] [.slice a n c, .slice a19 n20 c21, .slice a331 (no4 + 1) c332, .slice (some ⟨g242, 0, none⟩) n20 n20, .int .i64 (n4 : Int), .int .i64 ((a5 : Nat) : Int), .int .i64 ((no4 + 1 : Nat) : Int), .int .i64 0] .nil (by kernel_rfl) (fun b338 => ?_)
            refine thn_n ?_
            refine WP.block ?_
            have hp339 : Hp w Non [Res.row g328 [.int .i64 (xs22[a5]!.Call)] 3, Res.own 4 1 (.slice (some ⟨g242, 0, none⟩) n20 n20) n20 (List.flatMap (fun y => [.bool y]) (dn.set a5 true)), Res.own 3 1 (.slice a331 (no4 + 1) c332) (no4 + 1) (List.flatMap (fun (y : Int) => [Go.Value.int .i64 y]) ((out ++ [xs22[a5]!.Call]) ++ ([] : List Int))), Res.own 115 3 (.slice a19 n20 c21) n20 (List.flatMap Gsherdref21_Taken.cells xs22)] w333 := by rw [List.append_nil]; exact hp334
            have h5e : 0 ≤ xs22[a5]!.Call ∧ xs22[a5]!.Call < (l.length : Int) := by obtain ⟨i, e, t⟩ := tk_in hq23 h5a; have := tk_lt t; omega
            refine WP.loop (fun mz_ e340 w341 => ∃ (i6 : Nat) (g6 : List Int) (ao6 : Option Addr) (no6 : Nat) (co6 : Nat), mz_ = l.length - i6 ∧ (i6 ≤ l.length ∧ gtS l (tagW xs22[a5]!.Tag) i6 g6) ∧ List.map e340 [0, 4, 7, 11, 12, 13, 15, 16] = [.slice a n c, .slice a19 n20 c21, .slice ao6 no6 co6, .slice (some ⟨g242, 0, none⟩) n20 n20, .int .i64 (n4 : Int), .int .i64 ((a5 : Nat) : Int), .int .i64 ((no4 + 1 : Nat) : Int), .int .i64 (i6 : Int)] ∧ Hp w Non [Res.row g328 [.int .i64 (xs22[a5]!.Call)] 3, Res.own 4 1 (.slice (some ⟨g242, 0, none⟩) n20 n20) n20 (List.flatMap (fun y => [.bool y]) (dn.set a5 true)), Res.own 3 1 (.slice ao6 no6 co6) no6 (List.flatMap (fun (y : Int) => [Go.Value.int .i64 y]) ((out ++ [xs22[a5]!.Call]) ++ g6)), Res.own 115 3 (.slice a19 n20 c21) n20 (List.flatMap Gsherdref21_Taken.cells xs22)] w341) (l.length - (0)) ⟨0, [], a331, no4 + 1, c332, rfl, ⟨by omega, gtS_start⟩, by kernel_rfl, hp339⟩ ?_
            rintro _ e340 w341 ⟨i6, g6, ao6, no6, co6, rfl, hI343, hE344, hp342⟩
            obtain ⟨b345, rfl⟩ := toMk hE344
            clear hE344
            obtain ⟨q6a, q6b⟩ := hI343
            have q6e := own_flat (sz := 1) (fun _ => rfl) (by decide) hp342.get2
            simp only [List.length_append, List.length_cons, List.length_nil] at q6e
            have q6l := gtS_len q6b
            refine WP.seq ?_
            refine WP.seq ?_
            refine WP.pure {} [] [0, 4, 7, 11, 12, 13, 15, 16, 162] [.slice a n c, .slice a19 n20 c21, .slice ao6 no6 co6, .slice (some ⟨g242, 0, none⟩) n20 n20, .int .i64 (n4 : Int), .int .i64 ((a5 : Nat) : Int), .int .i64 ((no4 + 1 : Nat) : Int), .int .i64 (i6 : Int), .bool (decide ((i6 : Int) < ((n : Nat) : Int)))] .nil (by kernel_rfl) (fun b346 => ?_)
            refine thn_n ?_
            refine WP.test (p := (i6 : Int) < ((n : Nat) : Int)) rfl Bp.dec (fun h347 => ?_) (fun h347 => ?_)
            · refine WP.skip ?_
              refine thn_n ?_
              refine WP.seq ?_
              refine WP.block ?_
              refine WP.cut (fun e379 w380 => ∃ (x377 : Bool), (True) ∧ Bp x377 ((rdC (l[i6]!)) ∧ (((l[i6]!.Tag.Count) = (xs22[a5]!.Tag.Count)) ∧ ((l[i6]!.Tag.Client) = (xs22[a5]!.Tag.Client)))) ∧ List.map e379 [0, 4, 7, 11, 12, 13, 15, 16, 182] = [.slice a n c, .slice a19 n20 c21, .slice ao6 no6 co6, .slice (some ⟨g242, 0, none⟩) n20 n20, .int .i64 (n4 : Int), .int .i64 ((a5 : Nat) : Int), .int .i64 ((no4 + 1 : Nat) : Int), .int .i64 (i6 : Int), .bool x377] ∧ Hp w Non [Res.row g328 [.int .i64 (xs22[a5]!.Call)] 3, Res.own 4 1 (.slice (some ⟨g242, 0, none⟩) n20 n20) n20 (List.flatMap (fun y => [.bool y]) (dn.set a5 true)), Res.own 3 1 (.slice ao6 no6 co6) no6 (List.flatMap (fun (y : Int) => [Go.Value.int .i64 y]) ((out ++ [xs22[a5]!.Call]) ++ g6)), Res.own 115 3 (.slice a19 n20 c21) n20 (List.flatMap Gsherdref21_Taken.cells xs22)] w380) ?_ ?_
              · have hp351 := hp342.drew
                refine WP.quiet (fun w349 => Hp w Non [Res.row g328 [.int .i64 (xs22[a5]!.Call)] 3, Res.own 4 1 (.slice (some ⟨g242, 0, none⟩) n20 n20) n20 (List.flatMap (fun y => [.bool y]) (dn.set a5 true)), Res.own 3 1 (.slice ao6 no6 co6) no6 (List.flatMap (fun (y : Int) => [Go.Value.int .i64 y]) ((out ++ [xs22[a5]!.Call]) ++ g6)), Res.own 115 3 (.slice a19 n20 c21) n20 (List.flatMap Gsherdref21_Taken.cells xs22)] w349) (by kernel_rfl) hp351 ?_
                have hnehp351 : ∃ wz_, (fun w349 => Hp w Non [Res.row g328 [.int .i64 (xs22[a5]!.Call)] 3, Res.own 4 1 (.slice (some ⟨g242, 0, none⟩) n20 n20) n20 (List.flatMap (fun y => [.bool y]) (dn.set a5 true)), Res.own 3 1 (.slice ao6 no6 co6) no6 (List.flatMap (fun (y : Int) => [Go.Value.int .i64 y]) ((out ++ [xs22[a5]!.Call]) ++ g6)), Res.own 115 3 (.slice a19 n20 c21) n20 (List.flatMap Gsherdref21_Taken.cells xs22)] w349) wz_ := ⟨_, hp351⟩
                have hy355 : (l)[i6]? = some l[i6]! := get_bang (by first | (omega) | (simp only [List.length_append, List.length_cons, List.length_nil]; omega) | (simp only [List.length_take, List.length_append, List.length_cons, List.length_nil]; omega))
                refine QOPS.batch 4 {} [GCall.val (l[i6]!)] [0, 4, 7, 11, 12, 13, 15, 16, 168] [.slice a n c, .slice a19 n20 c21, .slice ao6 no6 co6, .slice (some ⟨g242, 0, none⟩) n20 n20, .int .i64 (n4 : Int), .int .i64 ((a5 : Nat) : Int), .int .i64 ((no4 + 1 : Nat) : Int), .int .i64 (i6 : Int), GCall.val (l[i6]!)] hnehp351 (fun w352 hp353 => QB.mk (.cons (show InB ((i6 : Int)) (n) from ⟨by omega, by omega⟩) (.cons ((hs.at hp353).some (by omega)) (.cons (Ld.add0 (Ld.elN (P := Try.prog) (t := 73) (hs.at hp353).rd 11 (fun _ => rfl) hy355 (o := 0) (cs := [.int .i64 (l[i6]!.Client), .int .i64 (l[i6]!.Op), .bool (l[i6]!.Put), .string (l[i6]!.Key), .slice (l[i6]!.Value.a) (l[i6]!.Value.n) (l[i6]!.Value.c), .int .i64 (l[i6]!.Status), .int .i64 (l[i6]!.From), .int .i64 (l[i6]!.To), .bool (l[i6]!.Open), .int .i64 (l[i6]!.Tag.Count), .int .i64 (l[i6]!.Tag.Client)]) (by kernel_rfl))) .nil))) (by kernel_rfl)) (fun b356 => ?_)
                refine QOPS.call (some 169) [GCall.val (l[i6]!)] (by kernel_rfl) (fun w357 hp358 => (r21_read (l[i6]!) _).mono fun _ _ h => by obtain ⟨b, h1, h2, h3⟩ := h; exact ⟨by rw [h1, h2.eq_bo], hp358.step h3⟩) ?_
                refine QOPS.batch 1 {} [] [0, 4, 7, 11, 12, 13, 15, 16, 170] [.slice a n c, .slice a19 n20 c21, .slice ao6 no6 co6, .slice (some ⟨g242, 0, none⟩) n20 n20, .int .i64 (n4 : Int), .int .i64 ((a5 : Nat) : Int), .int .i64 ((no4 + 1 : Nat) : Int), .int .i64 (i6 : Int), .bool (bo (rdC (l[i6]!)))] hnehp351 (fun w359 hp360 => QB.mk .nil (by kernel_rfl)) (fun b361 => ?_)
                by_cases h362 : rdC (l[i6]!)
                · refine QOPS.batch 0 {} [] [0, 4, 7, 11, 12, 13, 15, 16, 170] [.slice a n c, .slice a19 n20 c21, .slice ao6 no6 co6, .slice (some ⟨g242, 0, none⟩) n20 n20, .int .i64 (n4 : Int), .int .i64 ((a5 : Nat) : Int), .int .i64 ((no4 + 1 : Nat) : Int), .int .i64 (i6 : Int), .bool (bo (rdC (l[i6]!)))] hnehp351 (fun _ _ => QB.mk .nil (by kernel_rfl)) (fun b363 => ?_)
                  refine QOPS.re [.slice a n c, .slice a19 n20 c21, .slice ao6 no6 co6, .slice (some ⟨g242, 0, none⟩) n20 n20, .int .i64 (n4 : Int), .int .i64 ((a5 : Nat) : Int), .int .i64 ((no4 + 1 : Nat) : Int), .int .i64 (i6 : Int), .bool true] (by rw [show (bo (rdC (l[i6]!))) = true from Bp.bo.tt h362]) ?_
                  have := own_flat (sz := 3) (fun _ => rfl) (by decide) hp351.get3
                  have hy367 : (xs22)[a5]? = some xs22[a5]! := get_bang (by first | (omega) | (simp only [List.length_append, List.length_cons, List.length_nil]; omega) | (simp only [List.length_take, List.length_append, List.length_cons, List.length_nil]; omega))
                  refine QOPS.batch 12 { wraps := [182] } [.agg #[.int .i64 (l[i6]!.Tag.Count), .int .i64 (l[i6]!.Tag.Client)], .agg #[.int .i64 (xs22[a5]!.Tag.Count), .int .i64 (xs22[a5]!.Tag.Client)]] [0, 4, 7, 11, 12, 13, 15, 16, 182] [.slice a n c, .slice a19 n20 c21, .slice ao6 no6 co6, .slice (some ⟨g242, 0, none⟩) n20 n20, .int .i64 (n4 : Int), .int .i64 ((a5 : Nat) : Int), .int .i64 ((no4 + 1 : Nat) : Int), .int .i64 (i6 : Int), .bool ((decide ((l[i6]!.Tag.Count) = (xs22[a5]!.Tag.Count))) && ((decide ((l[i6]!.Tag.Client) = (xs22[a5]!.Tag.Client))) && true))] hnehp351 (fun w364 hp365 => QB.mk (.cons (show InB ((i6 : Int)) (n) from ⟨by omega, by omega⟩) (.cons ((hs.at hp365).some (by omega)) (.cons (Ld.elN (P := Try.prog) (t := 70) (hs.at hp365).rd 11 (fun _ => rfl) hy355 (o := 9) (cs := [.int .i64 (l[i6]!.Tag.Count), .int .i64 (l[i6]!.Tag.Client)]) (by kernel_rfl)) (.cons (show InB (((a5 : Nat) : Int)) (n20) from ⟨by omega, by omega⟩) (.cons ((SlR.own (hp365.get3)).some (by omega)) (.cons (Ld.elN (P := Try.prog) (t := 70) (SlR.own (hp365.get3)).rd 3 (fun _ => rfl) hy367 (o := 1) (cs := [.int .i64 (xs22[a5]!.Tag.Count), .int .i64 (xs22[a5]!.Tag.Client)]) (by kernel_rfl)) .nil)))))) (by kernel_rfl)) (fun b368 => ?_)
                  refine QOPS.nil (fun w369 hp370 => ?_)
                  refine thn_n ?_
                  exact ⟨(decide ((l[i6]!.Tag.Count) = (xs22[a5]!.Tag.Count))) && ((decide ((l[i6]!.Tag.Client) = (xs22[a5]!.Tag.Client))) && true), trivial, Bp.of (Bp.band Bp.dec (Bp.band1 Bp.dec)) (by first | (simp only [h362, iff_false, false_iff, iff_true, true_iff, Classical.not_not, and_true, true_and, and_false, false_and, or_true, true_or, or_false, false_or, not_true_eq_false, not_false_eq_true, and_self, or_self, iff_self]; done) | (simp [h362]; done) | grind | (simp_all; done)), by kernel_rfl, hp370⟩
                · refine QOPS.batch 0 {} [] [0, 4, 7, 11, 12, 13, 15, 16, 170] [.slice a n c, .slice a19 n20 c21, .slice ao6 no6 co6, .slice (some ⟨g242, 0, none⟩) n20 n20, .int .i64 (n4 : Int), .int .i64 ((a5 : Nat) : Int), .int .i64 ((no4 + 1 : Nat) : Int), .int .i64 (i6 : Int), .bool (bo (rdC (l[i6]!)))] hnehp351 (fun _ _ => QB.mk .nil (by kernel_rfl)) (fun b371 => ?_)
                  refine QOPS.re [.slice a n c, .slice a19 n20 c21, .slice ao6 no6 co6, .slice (some ⟨g242, 0, none⟩) n20 n20, .int .i64 (n4 : Int), .int .i64 ((a5 : Nat) : Int), .int .i64 ((no4 + 1 : Nat) : Int), .int .i64 (i6 : Int), .bool false] (by rw [show (bo (rdC (l[i6]!))) = false from Bp.bo.ff h362]) ?_
                  refine QOPS.batch 12 { wraps := [182] } [] [0, 4, 7, 11, 12, 13, 15, 16, 182] [.slice a n c, .slice a19 n20 c21, .slice ao6 no6 co6, .slice (some ⟨g242, 0, none⟩) n20 n20, .int .i64 (n4 : Int), .int .i64 ((a5 : Nat) : Int), .int .i64 ((no4 + 1 : Nat) : Int), .int .i64 (i6 : Int), .bool false] hnehp351 (fun w372 hp373 => QB.mk .nil (by kernel_rfl)) (fun b374 => ?_)
                  refine QOPS.nil (fun w375 hp376 => ?_)
                  refine thn_n ?_
                  exact ⟨false, trivial, Bp.of Bp.f (by first | (simp only [h362, iff_false, false_iff, iff_true, true_iff, Classical.not_not, and_true, true_and, and_false, false_and, or_true, true_or, or_false, false_or, not_true_eq_false, not_false_eq_true, and_self, or_self, iff_self]; done) | (simp [h362]; done) | grind | (simp_all; done)), by kernel_rfl, hp376⟩
              rintro e379 w380 ⟨x377, hd382, hb378, hE383, hp381⟩
              obtain ⟨b384, rfl⟩ := toMk hE383
              clear hE383
              clear hd382
              refine WP.test (p := (rdC (l[i6]!)) ∧ (((l[i6]!.Tag.Count) = (xs22[a5]!.Tag.Count)) ∧ ((l[i6]!.Tag.Client) = (xs22[a5]!.Tag.Client)))) rfl hb378 (fun h385 => ?_) (fun h385 => ?_)
              · refine WP.region _ rfl (by kernel_rfl) ?_
                refine OPS.batch 4 {} [] [0, 4, 11, 12, 13, 15, 16, 183, 184, 185, 186] [.slice a n c, .slice a19 n20 c21, .slice (some ⟨g242, 0, none⟩) n20 n20, .int .i64 (n4 : Int), .int .i64 ((a5 : Nat) : Int), .int .i64 ((no4 + 1 : Nat) : Int), .int .i64 (i6 : Int), .slice a n c, .slice ao6 no6 co6, .int .i64 ((no4 + 1 : Nat) : Int), .int .i64 (i6 : Int)] .nil (by kernel_rfl) (fun b386 => ?_)
                have hp389 := hp381.pull2
                have q396w := own_flat (sz := 1) (fun _ => rfl) (by decide) hp389.get0
                try simp only [List.length_append, List.length_cons, List.length_nil] at q396w
                have q396z := gtS_len q6b
                refine OPS.cons (opStep.call (some 187) [.slice a n c, .slice ao6 no6 co6, .int .i64 ((no4 + 1 : Nat) : Int), .int .i64 (i6 : Int)] (by kernel_rfl) (r21_placed w _ l _ _ _ (by omega) (by omega) (hs) ((out ++ [xs22[a5]!.Call]) ++ g6) _ _ _ (no4 + 1) (i6 : Int) _ (by first | omega | (simp only [List.length_append, List.length_cons, List.length_nil]; omega)) (by first | omega | (simp only [List.length_append, List.length_cons, List.length_nil]; omega)) ⟨by omega, by omega⟩ (fun y hy => by simp only [List.mem_append, List.mem_singleton] at hy; rcases hy with (hy | hy) | hy; exact p4e y hy; rw [hy]; exact h5e; exact gtS_in q6b (by omega) y hy) (by first | omega | (simp only [List.length_append, List.length_cons, List.length_nil]; omega)) hp389) ?_)
                rintro _ w390 ⟨a392, n393, c394, m395, rfl, ⟨q3961, q3962, q3963, q3964, q3965⟩, hp391⟩
                obtain ⟨g397, e398, hg399⟩ : ∃ g_, insL ((out ++ [xs22[a5]!.Call]) ++ g6) m395 (i6 : Int) = (out ++ [xs22[a5]!.Call]) ++ g_ ∧ gtS l (tagW xs22[a5]!.Tag) (i6 + 1) g_ := gtS_add (p := (out ++ [xs22[a5]!.Call])) (os := g6) q6b (gtS_tag.1 ⟨by have h_ := h385; grind, by rw [tagEq]; have h_ := h385; grind⟩) (by have := q3961; simp only [List.length_append, List.length_cons, List.length_nil]; omega) q3962 q3964 (q3965.imp (fun h_ => by simp only [List.length_append, List.length_cons, List.length_nil]; omega) id)
                rw [e398] at hp391
                refine ⟨_, rfl, ?_⟩
                refine OPS.batch 1 {} [] [0, 4, 7, 11, 12, 13, 15, 16] [.slice a n c, .slice a19 n20 c21, .slice a392 n393 c394, .slice (some ⟨g242, 0, none⟩) n20 n20, .int .i64 (n4 : Int), .int .i64 ((a5 : Nat) : Int), .int .i64 ((no4 + 1 : Nat) : Int), .int .i64 (i6 : Int)] .nil (by kernel_rfl) (fun b401 => ?_)
                refine OPS.nil ?_
                refine blk_n ?_
                refine thn_n ?_
                refine WP.pure {} [] [0, 4, 7, 11, 12, 13, 15, 16] [.slice a n c, .slice a19 n20 c21, .slice a392 n393 c394, .slice (some ⟨g242, 0, none⟩) n20 n20, .int .i64 (n4 : Int), .int .i64 ((a5 : Nat) : Int), .int .i64 ((no4 + 1 : Nat) : Int), .int .i64 ((i6 : Int) + 1)] (.cons (show Rng .i64 ((i6 : Int) + 1) from Rng.i64 (by omega)) .nil) (by kernel_rfl) (fun b402 => ?_)
                refine thn_n ?_
                exact ⟨l.length - (i6 + 1), (by omega), i6 + 1, g397, a392, n393, c394, rfl, ⟨by omega, hg399⟩, by kernel_rfl, (((((hp391.pull3).pull1).pull3).pull3).sub (.cons_cons _ (.cons_cons _ (.cons_cons _ (.cons_cons _ (.slnil))))))⟩
              · refine WP.skip ?_
                refine blk_n ?_
                refine thn_n ?_
                refine WP.pure {} [] [0, 4, 7, 11, 12, 13, 15, 16] [.slice a n c, .slice a19 n20 c21, .slice ao6 no6 co6, .slice (some ⟨g242, 0, none⟩) n20 n20, .int .i64 (n4 : Int), .int .i64 ((a5 : Nat) : Int), .int .i64 ((no4 + 1 : Nat) : Int), .int .i64 ((i6 : Int) + 1)] (.cons (show Rng .i64 ((i6 : Int) + 1) from Rng.i64 (by omega)) .nil) (by kernel_rfl) (fun b403 => ?_)
                refine thn_n ?_
                exact ⟨l.length - (i6 + 1), (by omega), i6 + 1, g6, ao6, no6, co6, rfl, ⟨by omega, gtS_skip q6b (fun q => by have q2_ := gtS_tag.2 q; rw [tagEq] at q2_; have h_ := h385; grind)⟩, by kernel_rfl, hp381⟩
            · refine WP.exit ?_
              refine thn_x ?_
              refine thn_x ?_
              refine blk_hit ?_
              refine blk_n ?_
              refine thn_n ?_
              refine WP.pure {} [] [0, 4, 7, 11, 12] [.slice a n c, .slice a19 n20 c21, .slice ao6 no6 co6, .slice (some ⟨g242, 0, none⟩) n20 n20, .int .i64 ((n4 : Int) + 1)] (.cons (show Rng .i64 ((n4 : Int) + 1) from Rng.i64 (by omega)) .nil) (by kernel_rfl) (fun b404 => ?_)
              refine thn_n ?_
              exact ⟨xs22.length - (n4 + 1), (by omega), n4 + 1, dn.set a5 true, qs ++ [xs22[a5]!.Call], (out ++ [xs22[a5]!.Call]) ++ g6, ao6, no6, co6, rfl, ⟨by omega, sel_step hN p4b h5a h5c h5d, byL_more hN p4b p4c h5a (gtS_end (show gtS l _ l.length g6 by rw [show i6 = l.length from by omega] at q6b; exact q6b)), by simp only [List.length_append, List.length_cons, List.length_nil]; omega, fun y hy => by simp only [List.mem_append, List.mem_singleton] at hy; rcases hy with (hy | hy) | hy; exact p4e y hy; rw [hy]; exact h5e; exact gtS_in q6b (by omega) y hy⟩, by kernel_rfl, (hp342.sub (.cons _ (.cons_cons _ (.cons_cons _ (.cons_cons _ (.slnil))))))⟩
        · refine WP.exit ?_
          refine thn_x ?_
          refine thn_x ?_
          refine blk_hit ?_
          refine thn_n ?_
          refine WP.seq ?_
          refine WP.pure {} [] [2, 3] [.slice ao4 no4 co4, .int .i64 0] .nil (by kernel_rfl) (fun b405 => ?_)
          refine thn_n ?_
          refine WP.ret ?_
          refine bodyQ.of _ rfl [.slice ao4 no4 co4, .int .i64 0] ⟨rfl, rfl, trivial⟩ ?_
          obtain rfl : n4 = xs22.length := by omega
          have p4g := own_flat (sz := 1) (fun _ => rfl) (by decide) hp247.get1
          obtain rfl : no4 = out.length := by omega
          have hB := sel_end hq23 hN p4b
          exact ⟨_, _, out, _, rfl, .inr (.inr ⟨h11, tk_good hq23 hN pc3, rfl, _, _, hB, by rw [p4b.2.2.1]; exact p4c⟩), (hp247.sub (.cons _ (.cons_cons _ (.cons _ (.slnil)))))⟩

end Go.Proofs.Ytdahgdkadfdkeaa.K
