/- The walks of SetH: what each function computes. -/
import Derived.Test.YtoeholipggkcaaaProg
import Derived.Test.YtoeholipggkcaaaCoreO
import Derived.Test.YtoeholipggkcaaaSetG
namespace Go.Proofs.Ytoeholipggkcaaa.K
open Go Go.Proofs Go.RowKit
set_option linter.unusedVariables false
set_option linter.unusedSimpArgs false
set_option maxRecDepth 20000
set_option maxHeartbeats 4000000

theorem ref_From (rs : List GTag) (a : Option Addr) (n c rb : Nat) (ys : List GTag) (t : GTag) (w : World) (hn : n = rs.length) (hb : rs.length ≤ 4194304) (hx : SlR w a n (rs.flatMap GTag.cells)) (hs : (Res.row rb [.slice a n c] 55).holds w) (E : Eqv ys rs) :
    Calls Try.prog 26 #[.pointer (some ⟨rb, 0, none⟩), GTag.val t] w (fun r_ w' => ∃ ao no co, r_ = .returned (.slice ao no co) ∧ Hp w Non [Res.own 29 2 (.slice ao no co) no (List.flatMap GTag.cells (ys.drop (blw rs t)))] w') := by
  refine calls_of Try.func26 rfl 53 rfl (by simp) ?_
  have hp0 := Hp.init w
  have he0 : List.map (env0 [.pointer (some ⟨rb, 0, none⟩), GTag.val t]) [0, 1] = [.pointer (some ⟨rb, 0, none⟩), GTag.val t] := by kernel_rfl
  obtain ⟨b0, he0⟩ := toMk he0
  rw [he0]
  clear he0
  refine WP.seq ?_
  refine WP.region _ rfl (by kernel_rfl) ?_
  refine OPS.cons (opStep.box hp0 [.int .i64 t.Count, .int .i64 t.Client] (by kernel_rfl) (fun g3 w1 hp2 => ?_))
  refine OPS.batch 1 {} [] [0, 3] [.pointer (some ⟨rb, 0, none⟩), .pointer (some ⟨g3, 0, none⟩)] .nil (by kernel_rfl) (fun b4 => ?_)
  refine OPS.nil ?_
  refine thn_n ?_
  refine WP.seq ?_
  refine WP.seq ?_
  refine WP.pure {} [] [0, 3, 9] [.pointer (some ⟨rb, 0, none⟩), .pointer (some ⟨g3, 0, none⟩), .bool false] .nil (by kernel_rfl) (fun b5 => ?_)
  refine thn_n ?_
  refine WP.condF rfl ?_
  refine WP.skip ?_
  refine thn_n ?_
  refine WP.seq ?_
  refine WP.pure {} [] [0, 3, 5] [.pointer (some ⟨rb, 0, none⟩), .pointer (some ⟨g3, 0, none⟩), .slice none 0 0] .nil (by kernel_rfl) (fun b6 => ?_)
  refine thn_n ?_
  refine WP.seq ?_
  refine WP.seq ?_
  refine WP.region _ rfl (by kernel_rfl) ?_
  refine OPS.batch 2 {} [GTag.val t] [0, 5, 10, 11] [.pointer (some ⟨rb, 0, none⟩), .slice none 0 0, .pointer (some ⟨rb, 0, none⟩), GTag.val t] (.cons (show Ld Try.prog w1 29 ⟨g3, 0, none⟩ (GTag.val t) from Ld.rowN (cs := [.int .i64 t.Count, .int .i64 t.Client]) hp2.get0 (by kernel_rfl)) .nil) (by kernel_rfl) (fun b7 => ?_)
  refine OPS.cons (opStep.call (some 12) [.pointer (some ⟨rb, 0, none⟩), GTag.val t] (by kernel_rfl) (ref_below rs a n c rb t _ hn hb (hx.fram hp2.fr) (row_at hs hp2.fr)) ?_)
  rintro _ w10 ⟨rfl, hf11⟩
  refine ⟨_, rfl, ?_⟩
  have hp12 := hp2.step hf11
  refine OPS.batch 1 {} [] [0, 5, 6] [.pointer (some ⟨rb, 0, none⟩), .slice none 0 0, .int .i64 ((blw rs t : Nat) : Int)] .nil (by kernel_rfl) (fun b13 => ?_)
  refine OPS.nil ?_
  refine thn_n ?_
  refine WP.block ?_
  have hbl : blw rs t ≤ rs.length := blw_le
  have hp14 := (show Hp w Non [Res.own 29 2 (.slice none 0 0) 0 (List.flatMap GTag.cells ([] : List GTag)), Res.row g3 [.int .i64 t.Count, .int .i64 t.Client] 29] w10 from hp12.nilOwn 29 2)
  refine WP.loop (fun mz_ e15 w16 => ∃ (m : Nat) (out : List GTag) (ao : Option Addr) (no : Nat) (co : Nat), mz_ = rs.length - m ∧ (blw rs t ≤ m ∧ m ≤ rs.length ∧ out = (ys.drop (blw rs t)).take (m - blw rs t)) ∧ List.map e15 [0, 5, 6] = [.pointer (some ⟨rb, 0, none⟩), .slice ao no co, .int .i64 (m : Int)] ∧ Hp w Non [Res.own 29 2 (.slice ao no co) no (List.flatMap GTag.cells out), Res.row g3 [.int .i64 t.Count, .int .i64 t.Client] 29] w16) (rs.length - ((blw rs t))) ⟨(blw rs t), [], none, 0, 0, rfl, ⟨by omega, hbl, by rw [Nat.sub_self]; rfl⟩, by kernel_rfl, hp14⟩ ?_
  rintro _ e15 w16 ⟨m, out, ao, no, co, rfl, hI18, hE19, hp17⟩
  obtain ⟨b20, rfl⟩ := toMk hE19
  clear hE19
  obtain ⟨pa, pb, pc⟩ := hI18
  have pl : out.length ≤ rs.length := by rw [pc, List.length_take]; omega
  refine WP.seq ?_
  refine WP.seq ?_
  refine WP.pure {} [.slice a n c] [0, 5, 6, 19] [.pointer (some ⟨rb, 0, none⟩), .slice ao no co, .int .i64 (m : Int), .bool (decide ((m : Int) < ((n : Nat) : Int)))] (.cons (Ld.row1 (P := Try.prog) (t := 22) (o := 0) (v := .slice a n c) (row_at hs hp17.fr) (by kernel_rfl)) .nil) (by kernel_rfl) (fun b21 => ?_)
  refine thn_n ?_
  refine WP.test (p := (m : Int) < ((n : Nat) : Int)) rfl Bp.dec (fun h22 => ?_) (fun h22 => ?_)
  · refine WP.skip ?_
    refine thn_n ?_
    refine WP.seq ?_
    refine WP.block ?_
    refine WP.seq ?_
    refine WP.pure {} [] [0, 5, 6, 7] [.pointer (some ⟨rb, 0, none⟩), .slice ao no co, .int .i64 (m : Int), .int .i64 0] .nil (by kernel_rfl) (fun b23 => ?_)
    refine thn_n ?_
    refine WP.block ?_
    refine WP.loop (fun mz_ e24 w25 => ∃ (j : Nat) (out2 : List GTag) (ao2 : Option Addr) (no2 : Nat) (co2 : Nat), mz_ = rs.length - j ∧ (j ≤ rs.length ∧ frI ys rs out2 out m j) ∧ List.map e24 [0, 5, 6, 7] = [.pointer (some ⟨rb, 0, none⟩), .slice ao2 no2 co2, .int .i64 (m : Int), .int .i64 (j : Int)] ∧ Hp w Non [Res.own 29 2 (.slice ao2 no2 co2) no2 (List.flatMap GTag.cells out2), Res.row g3 [.int .i64 t.Count, .int .i64 t.Client] 29] w25) (rs.length - (0)) ⟨0, out, ao, no, co, rfl, ⟨by omega, .inl ⟨rfl, fun i hi => by omega⟩⟩, by kernel_rfl, hp17⟩ ?_
    rintro _ e24 w25 ⟨j, out2, ao2, no2, co2, rfl, hI27, hE28, hp26⟩
    obtain ⟨b29, rfl⟩ := toMk hE28
    clear hE28
    obtain ⟨va, vb⟩ := hI27
    have pl2 := frI_len vb
    have pe2 := own_flat (sz := 2) (fun _ => rfl) (by decide) hp26.get0
    refine WP.seq ?_
    refine WP.seq ?_
    refine WP.pure {} [.slice a n c] [0, 5, 6, 7, 28] [.pointer (some ⟨rb, 0, none⟩), .slice ao2 no2 co2, .int .i64 (m : Int), .int .i64 (j : Int), .bool (decide ((j : Int) < ((n : Nat) : Int)))] (.cons (Ld.row1 (P := Try.prog) (t := 22) (o := 0) (v := .slice a n c) (row_at hs hp26.fr) (by kernel_rfl)) .nil) (by kernel_rfl) (fun b30 => ?_)
    refine thn_n ?_
    refine WP.test (p := (j : Int) < ((n : Nat) : Int)) rfl Bp.dec (fun h31 => ?_) (fun h31 => ?_)
    · refine WP.skip ?_
      refine thn_n ?_
      refine WP.seq ?_
      refine WP.block ?_
      refine WP.seq ?_
      refine WP.region _ rfl (by kernel_rfl) ?_
      have hy35 : (rs)[j]? = some rs[j]! := get_bang (by first | (omega) | (simp only [List.length_append, List.length_cons, List.length_nil]; omega) | (simp only [List.length_take, List.length_append, List.length_cons, List.length_nil]; omega))
      refine OPS.batch 8 {} [.slice a n c, GTag.val (rs[j]!)] [0, 5, 6, 7, 31, 38] [.pointer (some ⟨rb, 0, none⟩), .slice ao2 no2 co2, .int .i64 (m : Int), .int .i64 (j : Int), .pointer (some ⟨rb, 0, none⟩), GTag.val (rs[j]!)] (.cons (Ld.row1 (P := Try.prog) (t := 22) (o := 0) (v := .slice a n c) (row_at hs hp26.fr) (by kernel_rfl)) (.cons (show InB ((j : Int)) (n) from ⟨by omega, by omega⟩) (.cons ((hx.at hp26).some (by omega)) (.cons (Ld.add0 (Ld.elN (P := Try.prog) (t := 29) (hx.at hp26).rd 2 (fun _ => rfl) hy35 (o := 0) (cs := [.int .i64 (rs[j]!.Count), .int .i64 (rs[j]!.Client)]) (by kernel_rfl))) .nil)))) (by kernel_rfl) (fun b36 => ?_)
      refine OPS.cons (opStep.call (some 39) [.pointer (some ⟨rb, 0, none⟩), GTag.val (rs[j]!)] (by kernel_rfl) (ref_below rs a n c rb (rs[j]!) _ hn hb (hx.fram hp26.fr) (row_at hs hp26.fr)) ?_)
      rintro _ w39 ⟨rfl, hf40⟩
      refine ⟨_, rfl, ?_⟩
      have hp41 := hp26.step hf40
      refine OPS.batch 2 {} [] [0, 5, 6, 7, 41] [.pointer (some ⟨rb, 0, none⟩), .slice ao2 no2 co2, .int .i64 (m : Int), .int .i64 (j : Int), .bool (decide (((blw rs (rs[j]!) : Nat) : Int) = (m : Int)))] .nil (by kernel_rfl) (fun b42 => ?_)
      refine OPS.nil ?_
      refine thn_n ?_
      refine WP.test (p := ((blw rs (rs[j]!) : Nat) : Int) = (m : Int)) rfl Bp.dec (fun h43 => ?_) (fun h43 => ?_)
      · refine WP.region _ rfl (by kernel_rfl) ?_
        refine OPS.batch 8 {} [.slice a n c, GTag.val (rs[j]!)] [0, 6, 7, 42, 49] [.pointer (some ⟨rb, 0, none⟩), .int .i64 (m : Int), .int .i64 (j : Int), .slice ao2 no2 co2, GTag.val (rs[j]!)] (.cons (Ld.row1 (P := Try.prog) (t := 22) (o := 0) (v := .slice a n c) (row_at hs hp41.fr) (by kernel_rfl)) (.cons (show InB ((j : Int)) (n) from ⟨by omega, by omega⟩) (.cons ((hx.at hp41).some (by omega)) (.cons (Ld.add0 (Ld.elN (P := Try.prog) (t := 29) (hx.at hp41).rd 2 (fun _ => rfl) hy35 (o := 0) (cs := [.int .i64 (rs[j]!.Count), .int .i64 (rs[j]!.Client)]) (by kernel_rfl))) .nil)))) (by kernel_rfl) (fun b44 => ?_)
        refine OPS.cons (opStep.buildSlice (E := 29) hp41 [.int .i64 (rs[j]!.Count), .int .i64 (rs[j]!.Client)] (by kernel_rfl) (fun g47 w45 hp46 => ?_))
        refine OPS.cons (opStep.append1 [.int .i64 (rs[j]!.Count), .int .i64 (rs[j]!.Client)] hp46 16 (by kernel_rfl) rfl rfl rfl (SlR.row (n := 1) hp46.get0 rfl).rd (List.all_eq_true.1 (by kernel_rfl)) (by decide) (by omega) (by omega) (fun a50 c51 w52 hp53 hn54 => ?_))
        rw [(show List.flatMap GTag.cells out2 ++ [.int .i64 (rs[j]!.Count), .int .i64 (rs[j]!.Client)] = List.flatMap GTag.cells (out2 ++ [(⟨rs[j]!.Count, rs[j]!.Client⟩ : GTag)]) from (List.flatMap_append (xs := out2) (ys := [(⟨rs[j]!.Count, rs[j]!.Client⟩ : GTag)])).symm)] at hp53
        refine OPS.batch 1 {} [] [0, 5, 6, 7] [.pointer (some ⟨rb, 0, none⟩), .slice a50 (no2 + 1) c51, .int .i64 (m : Int), .int .i64 (j : Int)] .nil (by kernel_rfl) (fun b55 => ?_)
        refine OPS.nil ?_
        refine blk_n ?_
        refine thn_n ?_
        refine WP.pure {} [] [0, 5, 6, 7] [.pointer (some ⟨rb, 0, none⟩), .slice a50 (no2 + 1) c51, .int .i64 (m : Int), .int .i64 ((j : Int) + 1)] (.cons (show Rng .i64 ((j : Int) + 1) from Rng.i64 (by omega)) .nil) (by kernel_rfl) (fun b56 => ?_)
        refine thn_n ?_
        exact ⟨rs.length - (j + 1), (by omega), j + 1, out2 ++ [(⟨rs[j]!.Count, rs[j]!.Client⟩ : GTag)], a50, no2 + 1, c51, rfl, ⟨by omega, frI_yes E (by omega) vb ((E.at (by omega) (by have := E.len; omega)).1 (by have h_ := h43; omega))⟩, by kernel_rfl, (hp53.sub (.cons _ (.cons_cons _ (.cons_cons _ (.slnil)))))⟩
      · refine WP.skip ?_
        refine blk_n ?_
        refine thn_n ?_
        refine WP.pure {} [] [0, 5, 6, 7] [.pointer (some ⟨rb, 0, none⟩), .slice ao2 no2 co2, .int .i64 (m : Int), .int .i64 ((j : Int) + 1)] (.cons (show Rng .i64 ((j : Int) + 1) from Rng.i64 (by omega)) .nil) (by kernel_rfl) (fun b57 => ?_)
        refine thn_n ?_
        exact ⟨rs.length - (j + 1), (by omega), j + 1, out2, ao2, no2, co2, rfl, ⟨by omega, frI_no vb (fun q => by have q2 := (E.at (by omega) (by have := E.len; omega)).2 q; have h_ := h43; omega)⟩, by kernel_rfl, hp41⟩
    · refine WP.exit ?_
      refine thn_x ?_
      refine thn_x ?_
      refine blk_hit ?_
      refine blk_n ?_
      refine thn_n ?_
      refine WP.pure {} [] [0, 5, 6] [.pointer (some ⟨rb, 0, none⟩), .slice ao2 no2 co2, .int .i64 ((m : Int) + 1)] (.cons (show Rng .i64 ((m : Int) + 1) from Rng.i64 (by omega)) .nil) (by kernel_rfl) (fun b58 => ?_)
      refine thn_n ?_
      exact ⟨rs.length - (m + 1), (by omega), m + 1, out2, ao2, no2, co2, rfl, ⟨by omega, by omega, by rw [show j = rs.length from by omega, pc] at vb; exact frI_end E (by have := E.len; omega) (by omega) vb⟩, by kernel_rfl, hp26⟩
  · refine WP.exit ?_
    refine thn_x ?_
    refine thn_x ?_
    refine blk_hit ?_
    refine thn_n ?_
    refine WP.seq ?_
    refine WP.pure {} [] [4] [.slice ao no co] .nil (by kernel_rfl) (fun b59 => ?_)
    refine thn_n ?_
    refine WP.ret ?_
    refine bodyQ.of _ rfl [.slice ao no co] ⟨rfl, trivial⟩ ?_
    obtain rfl : m = rs.length := by omega
    rw [List.take_of_length_le (by rw [List.length_drop, E.len]; omega)] at pc
    exact ⟨_, _, _, rfl, by rw [← pc]; exact (hp17.sub (.cons_cons _ (.cons _ (.slnil))))⟩

end Go.Proofs.Ytoeholipggkcaaa.K
