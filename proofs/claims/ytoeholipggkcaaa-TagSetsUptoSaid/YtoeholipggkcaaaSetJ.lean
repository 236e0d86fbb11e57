/- The walks of SetJ: what each function computes. -/
import Derived.Test.YtoeholipggkcaaaProg
import Derived.Test.YtoeholipggkcaaaCoreO
import Derived.Test.YtoeholipggkcaaaSetI
namespace Go.Proofs.Ytoeholipggkcaaa.K
open Go Go.Proofs Go.RowKit
set_option linter.unusedVariables false
set_option linter.unusedSimpArgs false
set_option maxRecDepth 20000
set_option maxHeartbeats 4000000

theorem radd_nd {rs rs2 : List GTag} {t : GTag} {b : Bool} {e : Int} (h : rs.Nodup) (h2 : raddR rs t b e rs2) : rs2.Nodup ∧ ((tagProper t ∧ e = 0 ∧ (∀ u, u ∈ rs2 ↔ u ∈ rs ∨ u = t) ∧ rs2.length ≤ rs.length + 1) ∨ (¬ tagProper t ∧ e = 41)) := by
  rcases h2 with ⟨a1, _, a3, a4⟩ | ⟨a1, a2, ⟨c1, _, c3⟩ | ⟨c1, _, c3⟩⟩
  · exact ⟨a4 ▸ h, .inr ⟨a1, a3⟩⟩
  · refine ⟨c3 ▸ h, .inl ⟨a1, a2, fun u => ?_, by rw [c3]; omega⟩⟩
    rw [c3]; exact ⟨.inl, fun q => q.elim id fun e => e ▸ c1⟩
  · refine ⟨?_, .inl ⟨a1, a2, fun u => by rw [c3, List.mem_append, List.mem_singleton], by rw [c3]; simp⟩⟩
    rw [c3, List.nodup_iff_pairwise_ne, List.pairwise_append]
    refine ⟨List.nodup_iff_pairwise_ne.1 h, by simp, fun x hx y hy q => ?_⟩
    rw [List.mem_singleton] at hy
    exact c1 (hy ▸ q ▸ hx)
theorem ref_New (l : List GTag) (ag : Option Addr) (ng cg : Nat) (w : World) (hng : ng = l.length) (hb : l.length ≤ 4194304) (hg : SlR w ag ng (l.flatMap GTag.cells)) :
    Calls Try.prog 12 #[.slice ag ng cg] w (fun r_ w' => (∃ sb a n c ys, r_ = .returned (.tuple #[.pointer (some ⟨sb, 0, none⟩), .int .i64 0]) ∧ (∀ i, i < l.length → tagProper l[i]!) ∧ ys.Nodup ∧ (∀ u, u ∈ ys ↔ u ∈ l) ∧ Hp w Non [Res.row sb [.slice a n c] 55, Res.own 29 2 (.slice a n c) n (List.flatMap GTag.cells ys)] w') ∨ (r_ = .returned (.tuple #[.pointer none, .int .i64 41]) ∧ (∃ i, i < l.length ∧ ¬ tagProper l[i]!) ∧ Fram Non w w')) := by
  refine calls_of Try.func12 rfl 29 rfl (by simp) ?_
  have hp0 := Hp.init w
  have he0 : List.map (env0 [.slice ag ng cg]) [0] = [.slice ag ng cg] := by kernel_rfl
  obtain ⟨b0, he0⟩ := toMk he0
  rw [he0]
  clear he0
  refine WP.seq ?_
  refine WP.pure {} [] [0] [.slice ag ng cg] .nil (by kernel_rfl) (fun b1 => ?_)
  refine thn_n ?_
  refine WP.seq ?_
  refine WP.region _ rfl (by kernel_rfl) ?_
  refine OPS.batch 1 {} [] [0, 8] [.slice ag ng cg, .agg #[.slice none 0 0]] .nil (by kernel_rfl) (fun b2 => ?_)
  refine OPS.cons (opStep.box hp0 [.slice none 0 0] (by kernel_rfl) (fun g5 w3 hp4 => ?_))
  refine OPS.batch 1 {} [] [0, 4] [.slice ag ng cg, .pointer (some ⟨g5, 0, none⟩)] .nil (by kernel_rfl) (fun b6 => ?_)
  refine OPS.nil ?_
  refine thn_n ?_
  refine WP.seq ?_
  refine WP.seq ?_
  refine WP.pure {} [] [0, 4, 5] [.slice ag ng cg, .pointer (some ⟨g5, 0, none⟩), .int .i64 0] .nil (by kernel_rfl) (fun b7 => ?_)
  refine thn_n ?_
  refine WP.block ?_
  have hp8 := (show Hp w Non [Res.own 29 2 (.slice none 0 0) 0 (List.flatMap GTag.cells ([] : List GTag)), Res.row g5 [.slice none 0 0] 55] w3 from hp4.nilOwn 29 2)
  refine WP.loop (fun mz_ e9 w10 => ∃ (k : Nat) (ys : List GTag) (a : Option Addr) (n : Nat) (c : Nat), mz_ = l.length - k ∧ (k ≤ l.length ∧ ys.Nodup ∧ (∀ u, u ∈ ys ↔ u ∈ l.take k) ∧ (∀ i, i < k → tagProper l[i]!) ∧ ys.length ≤ k) ∧ List.map e9 [0, 4, 5] = [.slice ag ng cg, .pointer (some ⟨g5, 0, none⟩), .int .i64 (k : Int)] ∧ Hp w Non [Res.own 29 2 (.slice a n c) n (List.flatMap GTag.cells ys), Res.row g5 [.slice a n c] 55] w10) (l.length - (0)) ⟨0, [], none, 0, 0, rfl, ⟨by omega, List.nodup_nil, by simp, fun i hi => by omega, by simp⟩, by kernel_rfl, hp8⟩ ?_
  rintro _ e9 w10 ⟨k, ys, a, n, c, rfl, hI12, hE13, hp11⟩
  obtain ⟨b14, rfl⟩ := toMk hE13
  clear hE13
  obtain ⟨pa, pb, pc, pd, pe⟩ := hI12
  have pf := own_flat (sz := 2) (fun _ => rfl) (by decide) hp11.get0
  refine WP.seq ?_
  refine WP.seq ?_
  refine WP.pure {} [] [0, 4, 5, 13] [.slice ag ng cg, .pointer (some ⟨g5, 0, none⟩), .int .i64 (k : Int), .bool (decide ((k : Int) < ((ng : Nat) : Int)))] .nil (by kernel_rfl) (fun b15 => ?_)
  refine thn_n ?_
  refine WP.test (p := (k : Int) < ((ng : Nat) : Int)) rfl Bp.dec (fun h16 => ?_) (fun h16 => ?_)
  · refine WP.skip ?_
    refine thn_n ?_
    refine WP.seq ?_
    refine WP.block ?_
    refine WP.seq ?_
    refine WP.region _ rfl (by kernel_rfl) ?_
    have hy20 : (l)[k]? = some l[k]! := get_bang (by first | (omega) | (simp only [List.length_append, List.length_cons, List.length_nil]; omega) | (simp only [List.length_take, List.length_append, List.length_cons, List.length_nil]; omega))
    refine OPS.batch 5 {} [GTag.val (l[k]!)] [0, 4, 5, 17, 21] [.slice ag ng cg, .pointer (some ⟨g5, 0, none⟩), .int .i64 (k : Int), .pointer (some ⟨g5, 0, none⟩), GTag.val (l[k]!)] (.cons (show InB ((k : Int)) (ng) from ⟨by omega, by omega⟩) (.cons ((hg.at hp11).some (by omega)) (.cons (Ld.add0 (Ld.elN (P := Try.prog) (t := 29) (hg.at hp11).rd 2 (fun _ => rfl) hy20 (o := 0) (cs := [.int .i64 (l[k]!.Count), .int .i64 (l[k]!.Client)]) (by kernel_rfl))) .nil))) (by kernel_rfl) (fun b21 => ?_)
    have hp24 := hp11.pull0
    have hp25 := hp24.pull1
    refine OPS.cons (opStep.call (some 22) [.pointer (some ⟨g5, 0, none⟩), GTag.val (l[k]!)] (by kernel_rfl) (ref_Add _ _ ys a n c g5 (l[k]!) _ (by omega) hp25) ?_)
    rintro _ w26 ⟨b28, e29, a30, n31, c32, rs33, rfl, hq34, hp27⟩
    have hq34n := radd_nd pb hq34
    refine ⟨_, rfl, ?_⟩
    refine OPS.batch 5 {} [] [0, 4, 5, 7] [.slice ag ng cg, .pointer (some ⟨g5, 0, none⟩), .int .i64 (k : Int), .int .i64 e29] .nil (by kernel_rfl) (fun b35 => ?_)
    refine OPS.nil ?_
    refine thn_n ?_
    refine WP.seq ?_
    refine WP.pure {} [] [0, 4, 5, 7, 26] [.slice ag ng cg, .pointer (some ⟨g5, 0, none⟩), .int .i64 (k : Int), .int .i64 e29, .bool (decide (¬ (e29 = 0)))] .nil (by kernel_rfl) (fun b36 => ?_)
    refine thn_n ?_
    refine WP.test (p := ¬ (e29 = 0)) rfl Bp.dec (fun h37 => ?_) (fun h37 => ?_)
    · refine WP.seq ?_
      refine WP.pure {} [] [2, 3] [.pointer none, .int .i64 e29] .nil (by kernel_rfl) (fun b38 => ?_)
      refine thn_n ?_
      refine WP.ret ?_
      refine blk_r ?_
      refine thn_r ?_
      refine thn_r ?_
      refine blk_r ?_
      refine thn_r ?_
      refine bodyQ.of _ rfl [.pointer none, .int .i64 e29] ⟨rfl, rfl, trivial⟩ ?_
      rcases hq34n.2 with q | q
      · exact absurd q.2.1 (by have h_ := h37; omega)
      · refine .inr ⟨by rw [q.2]; rfl, ⟨k, by omega, q.1⟩, hp27.fr⟩
    · replace h37 := Classical.not_not.1 h37
      refine WP.skip ?_
      refine blk_n ?_
      refine thn_n ?_
      refine WP.pure {} [] [0, 4, 5] [.slice ag ng cg, .pointer (some ⟨g5, 0, none⟩), .int .i64 ((k : Int) + 1)] (.cons (show Rng .i64 ((k : Int) + 1) from Rng.i64 (by omega)) .nil) (by kernel_rfl) (fun b39 => ?_)
      refine thn_n ?_
      exact ⟨l.length - (k + 1), (by omega), k + 1, rs33, a30, n31, c32, rfl, ⟨by omega, hq34n.1, by rcases hq34n.2 with q | q; exact new_step (by omega) pc q.2.2.1; exact absurd q.2 (by have h_ := h37; omega), fun i hi => by by_cases e : i = k; subst e; rcases hq34n.2 with q | q; exact q.1; exact absurd q.2 (by have h_ := h37; omega); exact pd i (by omega), by rcases hq34n.2 with q | q; (have := q.2.2.2; omega); exact absurd q.2 (by have h_ := h37; omega)⟩, by kernel_rfl, (((hp27.pull0).pull1).sub (.cons_cons _ (.cons_cons _ (.slnil))))⟩
  · refine WP.exit ?_
    refine thn_x ?_
    refine thn_x ?_
    refine blk_hit ?_
    refine thn_n ?_
    refine WP.seq ?_
    refine WP.pure {} [] [2, 3] [.pointer (some ⟨g5, 0, none⟩), .int .i64 0] .nil (by kernel_rfl) (fun b40 => ?_)
    refine thn_n ?_
    refine WP.ret ?_
    refine bodyQ.of _ rfl [.pointer (some ⟨g5, 0, none⟩), .int .i64 0] ⟨rfl, rfl, trivial⟩ ?_
    obtain rfl : k = l.length := by omega
    rw [List.take_of_length_le (Nat.le_refl _)] at pc
    exact .inl ⟨g5, _, _, _, _, rfl, pd, pb, pc, (((hp11.pull0).pull1).sub (.cons_cons _ (.cons_cons _ (.slnil))))⟩

theorem nil_Add (t : GTag) (w : World) :
    Calls Try.prog 4 #[.pointer none, GTag.val t] w (fun r_ w' => r_ = .returned (.tuple #[.bool false, .int .i64 0]) ∧ Fram Non w w') := by
  refine calls_of Try.func4 rfl 31 rfl (by simp) ?_
  have hp0 := Hp.init w
  have he0 : List.map (env0 [.pointer none, GTag.val t]) [0, 1] = [.pointer none, GTag.val t] := by kernel_rfl
  obtain ⟨b0, he0⟩ := toMk he0
  rw [he0]
  clear he0
  refine WP.seq ?_
  refine WP.region _ rfl (by kernel_rfl) ?_
  refine OPS.cons (opStep.box hp0 [.int .i64 t.Count, .int .i64 t.Client] (by kernel_rfl) (fun g3 w1 hp2 => ?_))
  refine OPS.batch 2 {} [] [0, 3] [.pointer none, .pointer (some ⟨g3, 0, none⟩)] .nil (by kernel_rfl) (fun b4 => ?_)
  refine OPS.nil ?_
  refine thn_n ?_
  refine WP.seq ?_
  refine WP.seq ?_
  refine WP.pure {} [] [0, 3, 9] [.pointer none, .pointer (some ⟨g3, 0, none⟩), .bool true] .nil (by kernel_rfl) (fun b5 => ?_)
  refine thn_n ?_
  refine WP.condT rfl ?_
  refine WP.seq ?_
  refine WP.pure {} [] [4, 5] [.bool false, .int .i64 0] .nil (by kernel_rfl) (fun b6 => ?_)
  refine thn_n ?_
  refine WP.ret ?_
  refine thn_r ?_
  refine bodyQ.of _ rfl [.bool false, .int .i64 0] ⟨rfl, rfl, trivial⟩ ?_
  exact ⟨rfl, hp2.fr⟩

theorem nil_Has (t : GTag) (w : World) :
    Calls Try.prog 5 #[.pointer none, GTag.val t] w (fun r_ w' => r_ = .returned (.bool false) ∧ Fram Non w w') := by
  refine calls_of Try.func5 rfl 16 rfl (by simp) ?_
  have hp0 := Hp.init w
  have he0 : List.map (env0 [.pointer none, GTag.val t]) [0, 1] = [.pointer none, GTag.val t] := by kernel_rfl
  obtain ⟨b0, he0⟩ := toMk he0
  rw [he0]
  clear he0
  refine WP.seq ?_
  refine WP.region _ rfl (by kernel_rfl) ?_
  refine OPS.cons (opStep.box hp0 [.int .i64 t.Count, .int .i64 t.Client] (by kernel_rfl) (fun g3 w1 hp2 => ?_))
  refine OPS.batch 1 {} [] [0, 3] [.pointer none, .pointer (some ⟨g3, 0, none⟩)] .nil (by kernel_rfl) (fun b4 => ?_)
  refine OPS.nil ?_
  refine thn_n ?_
  refine WP.seq ?_
  refine WP.seq ?_
  refine WP.pure {} [] [0, 3, 8] [.pointer none, .pointer (some ⟨g3, 0, none⟩), .bool true] .nil (by kernel_rfl) (fun b5 => ?_)
  refine thn_n ?_
  refine WP.condT rfl ?_
  refine WP.seq ?_
  refine WP.pure {} [] [4] [.bool false] .nil (by kernel_rfl) (fun b6 => ?_)
  refine thn_n ?_
  refine WP.ret ?_
  refine thn_r ?_
  refine bodyQ.of _ rfl [.bool false] ⟨rfl, trivial⟩ ?_
  exact ⟨rfl, hp2.fr⟩

theorem nil_Len (w : World) :
    Calls Try.prog 6 #[.pointer none] w (fun r_ w' => r_ = .returned (.int .i64 0) ∧ Fram Non w w') := by
  refine calls_of Try.func6 rfl 10 rfl (by simp) ?_
  have hp0 := Hp.init w
  have he0 : List.map (env0 [.pointer none]) [0] = [.pointer none] := by kernel_rfl
  obtain ⟨b0, he0⟩ := toMk he0
  rw [he0]
  clear he0
  refine WP.seq ?_
  refine WP.pure {} [] [0] [.pointer none] .nil (by kernel_rfl) (fun b1 => ?_)
  refine thn_n ?_
  refine WP.seq ?_
  refine WP.seq ?_
  refine WP.pure {} [] [0, 4] [.pointer none, .bool true] .nil (by kernel_rfl) (fun b2 => ?_)
  refine thn_n ?_
  refine WP.condT rfl ?_
  refine WP.seq ?_
  refine WP.pure {} [] [2] [.int .i64 0] .nil (by kernel_rfl) (fun b3 => ?_)
  refine thn_n ?_
  refine WP.ret ?_
  refine thn_r ?_
  refine bodyQ.of _ rfl [.int .i64 0] ⟨rfl, trivial⟩ ?_
  exact ⟨rfl, hp0.fr⟩

theorem nil_Cut (t : GTag) (w : World) :
    Calls Try.prog 7 #[.pointer none, GTag.val t] w (fun r_ w' => r_ = .returned (.int .i64 0) ∧ Fram Non w w') := by
  refine calls_of Try.func7 rfl 25 rfl (by simp) ?_
  have hp0 := Hp.init w
  have he0 : List.map (env0 [.pointer none, GTag.val t]) [0, 1] = [.pointer none, GTag.val t] := by kernel_rfl
  obtain ⟨b0, he0⟩ := toMk he0
  rw [he0]
  clear he0
  refine WP.seq ?_
  refine WP.region _ rfl (by kernel_rfl) ?_
  refine OPS.cons (opStep.box hp0 [.int .i64 t.Count, .int .i64 t.Client] (by kernel_rfl) (fun g3 w1 hp2 => ?_))
  refine OPS.batch 1 {} [] [0, 3] [.pointer none, .pointer (some ⟨g3, 0, none⟩)] .nil (by kernel_rfl) (fun b4 => ?_)
  refine OPS.nil ?_
  refine thn_n ?_
  refine WP.seq ?_
  refine WP.seq ?_
  refine WP.pure {} [] [0, 3, 8] [.pointer none, .pointer (some ⟨g3, 0, none⟩), .bool true] .nil (by kernel_rfl) (fun b5 => ?_)
  refine thn_n ?_
  refine WP.condT rfl ?_
  refine WP.seq ?_
  refine WP.pure {} [] [4] [.int .i64 0] .nil (by kernel_rfl) (fun b6 => ?_)
  refine thn_n ?_
  refine WP.ret ?_
  refine thn_r ?_
  refine bodyQ.of _ rfl [.int .i64 0] ⟨rfl, trivial⟩ ?_
  exact ⟨rfl, hp2.fr⟩

theorem nil_From (t : GTag) (w : World) :
    Calls Try.prog 8 #[.pointer none, GTag.val t] w (fun r_ w' => r_ = .returned (.slice none 0 0) ∧ Fram Non w w') := by
  refine calls_of Try.func8 rfl 22 rfl (by simp) ?_
  have hp0 := Hp.init w
  have he0 : List.map (env0 [.pointer none, GTag.val t]) [0, 1] = [.pointer none, GTag.val t] := by kernel_rfl
  obtain ⟨b0, he0⟩ := toMk he0
  rw [he0]
  clear he0
  refine WP.seq ?_
  refine WP.region _ rfl (by kernel_rfl) ?_
  refine OPS.cons (opStep.box hp0 [.int .i64 t.Count, .int .i64 t.Client] (by kernel_rfl) (fun g3 w1 hp2 => ?_))
  refine OPS.batch 1 {} [] [0, 3] [.pointer none, .pointer (some ⟨g3, 0, none⟩)] .nil (by kernel_rfl) (fun b4 => ?_)
  refine OPS.nil ?_
  refine thn_n ?_
  refine WP.seq ?_
  refine WP.seq ?_
  refine WP.pure {} [] [0, 3, 8] [.pointer none, .pointer (some ⟨g3, 0, none⟩), .bool true] .nil (by kernel_rfl) (fun b5 => ?_)
  refine thn_n ?_
  refine WP.condT rfl ?_
  refine WP.seq ?_
  refine WP.pure {} [] [4] [.slice none 0 0] .nil (by kernel_rfl) (fun b6 => ?_)
  refine thn_n ?_
  refine WP.ret ?_
  refine thn_r ?_
  refine bodyQ.of _ rfl [.slice none 0 0] ⟨rfl, trivial⟩ ?_
  exact ⟨rfl, hp2.fr⟩

abbrev tag0_ : GTag := ⟨0, 0⟩
theorem nil_High (i : Int) (w : World) :
    Calls Try.prog 9 #[.pointer none, .int .i64 i] w (fun r_ w' => r_ = .returned (.tuple #[GTag.val tag0_, .int .i64 0]) ∧ Fram Non w w') := by
  refine calls_of Try.func9 rfl 35 rfl (by simp) ?_
  have hp0 := Hp.init w
  have he0 : List.map (env0 [.pointer none, .int .i64 i]) [0, 1] = [.pointer none, .int .i64 i] := by kernel_rfl
  obtain ⟨b0, he0⟩ := toMk he0
  rw [he0]
  clear he0
  refine WP.seq ?_
  refine WP.region _ rfl (by kernel_rfl) ?_
  refine OPS.cons (opStep.alloc hp0 [.int .i64 0, .int .i64 0] (by kernel_rfl) (fun g3 w1 hp2 => ?_))
  refine OPS.batch 1 {} [] [0, 1, 4] [.pointer none, .int .i64 i, .pointer (some ⟨g3, 0, none⟩)] .nil (by kernel_rfl) (fun b4 => ?_)
  refine OPS.nil ?_
  refine thn_n ?_
  refine WP.seq ?_
  refine WP.seq ?_
  refine WP.pure {} [] [0, 1, 4, 7] [.pointer none, .int .i64 i, .pointer (some ⟨g3, 0, none⟩), .bool true] .nil (by kernel_rfl) (fun b5 => ?_)
  refine thn_n ?_
  refine WP.condT rfl ?_
  refine WP.seq ?_
  refine WP.region _ rfl (by kernel_rfl) ?_
  refine OPS.batch 1 {} [] [4, 8] [.pointer (some ⟨g3, 0, none⟩), .agg #[.int .i64 0, .int .i64 0]] .nil (by kernel_rfl) (fun b6 => ?_)
  refine OPS.cons (opStep.store0 hp2 rfl [.int .i64 0, .int .i64 0] [.int .i64 0, .int .i64 0] (by kernel_rfl) (fun w7 hp8 => ?_))
  refine OPS.batch 1 {} [] [4, 5] [.pointer (some ⟨g3, 0, none⟩), .int .i64 0] .nil (by kernel_rfl) (fun b9 => ?_)
  refine OPS.nil ?_
  refine thn_n ?_
  refine WP.ret ?_
  refine thn_r ?_
  refine bodyQ.of _ rfl [.agg #[.int .i64 0, .int .i64 0], .int .i64 0] ⟨⟨_, rfl, (show Ld Try.prog w7 29 ⟨g3, 0, none⟩ (.agg #[.int .i64 0, .int .i64 0]) from Ld.rowN (cs := [.int .i64 0, .int .i64 0]) hp8.get0 (by kernel_rfl))⟩, rfl, trivial⟩ ?_
  exact ⟨rfl, hp8.fr⟩

end Go.Proofs.Ytoeholipggkcaaa.K
