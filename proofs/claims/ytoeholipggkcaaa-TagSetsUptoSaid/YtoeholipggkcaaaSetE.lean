/- The walks of SetE: what each function computes. -/
import Derived.Test.YtoeholipggkcaaaProg
import Derived.Test.YtoeholipggkcaaaCoreO
import Derived.Test.YtoeholipggkcaaaSetD
namespace Go.Proofs.Ytoeholipggkcaaa.K
open Go Go.Proofs Go.RowKit
set_option linter.unusedVariables false
set_option linter.unusedSimpArgs false
set_option maxRecDepth 20000
set_option maxHeartbeats 4000000

theorem srt_pw {xs : List GTag} : Srt xs ↔ xs.Pairwise fun a b => tagCmp a b < 0 := by
  rw [List.pairwise_iff_getElem]
  constructor
  · intro h i j hi hj hij
    have := h i j hij hj
    rwa [getElem!_pos xs i hi, getElem!_pos xs j hj] at this
  · intro h i j hij hj
    rw [getElem!_pos xs i (by omega), getElem!_pos xs j hj]; exact h i j (by omega) hj hij
theorem add_srt {xs ys : List GTag} {t : GTag} {b : Bool} {e : Int} (hs : Srt xs) (h : addR xs t b e ys) : Srt ys ∧ ((tagProper t ∧ e = 0 ∧ (∀ u, u ∈ ys ↔ u ∈ xs ∨ u = t) ∧ (b = true ↔ ¬ t ∈ xs) ∧ ys.length ≤ xs.length + 1) ∨ (¬ tagProper t ∧ e = 41 ∧ b = false ∧ ys = xs)) := by
  rcases h with ⟨a1, a2, a3, a4⟩ | ⟨a1, a2, k, f, hf, h⟩
  · subst a4; exact ⟨hs, .inr ⟨a1, a3, a2, rfl⟩⟩
  · have hlow := fnd_low hs hf
    have hhas := fnd_has hs hf
    rcases h with ⟨b1, b2, rfl⟩ | ⟨b1, b2, rfl⟩
    · have hm := hhas.1 b1
      refine ⟨hs, .inl ⟨a1, a2, fun u => ⟨.inl, fun q => q.elim id fun e => e ▸ hm⟩, ?_, by omega⟩⟩
      subst b2; simp [hm]
    · have hm : ¬ t ∈ xs := fun q => b1 (hhas.2 q)
      have hk := hf.1
      refine ⟨?_, .inl ⟨a1, a2, fun u => ?_, ?_, ?_⟩⟩
      · rw [srt_pw] at hs ⊢
        rw [List.pairwise_append, List.pairwise_cons]
        have hlt : ∀ y ∈ xs.take k, tagCmp y t < 0 := fun y hy => by
          obtain ⟨i, hi⟩ := List.getElem?_of_mem hy
          have hil := (List.getElem?_eq_some_iff.1 hi).1
          rw [List.length_take] at hil
          rw [List.getElem?_take_of_lt (by omega), List.getElem?_eq_getElem (by omega)] at hi
          have := hlow.1 i (by omega)
          rw [getElem!_pos xs i (by omega)] at this
          rw [← Option.some.inj hi]; exact this
        have hgt : ∀ y ∈ xs.drop k, tagCmp t y < 0 := fun y hy => by
          obtain ⟨i, hi⟩ := List.getElem?_of_mem hy
          rw [List.getElem?_drop] at hi
          have hil := (List.getElem?_eq_some_iff.1 hi).1
          have h5 := hlow.2 (k + i) (by omega) hil
          rw [getElem!_pos xs (k + i) hil] at h5
          rw [List.getElem?_eq_getElem hil] at hi
          have e := Option.some.inj hi
          rw [e] at h5
          have hne : ¬ (y.Count = t.Count ∧ y.Client = t.Client) := fun q => hm (by
            have : y = t := by cases y; cases t; simp at q ⊢; exact q
            rw [← this]; exact List.mem_of_mem_drop hy)
          rw [cmpL] at *; omega
        refine ⟨hs.sublist (List.take_sublist _ _), ⟨hgt, hs.sublist (List.drop_sublist _ _)⟩, fun x hx y hy => ?_⟩
        rcases List.mem_cons.1 hy with rfl | hy
        · exact hlt x hx
        · have h1 := hlt x hx
          have h2 := hgt y hy
          rw [cmpL] at *; omega
      · rw [List.mem_append, List.mem_cons]
        have : u ∈ xs ↔ u ∈ xs.take k ∨ u ∈ xs.drop k := by rw [← List.mem_append, List.take_append_drop]
        rw [this]
        constructor
        · rintro (q | q | q)
          · exact .inl (.inl q)
          · exact .inr q
          · exact .inl (.inr q)
        · rintro ((q | q) | q)
          · exact .inl q
          · exact .inr (.inr q)
          · exact .inr (.inl q)
      · subst b2; simp [hm]
      · simp only [List.length_append, List.length_cons, List.length_take, List.length_drop]; omega
theorem new_step {l ys ys2 : List GTag} {k : Nat} (hk : k < l.length) (h : ∀ u, u ∈ ys ↔ u ∈ l.take k) (h2 : ∀ u, u ∈ ys2 ↔ u ∈ ys ∨ u = l[k]!) : ∀ u, u ∈ ys2 ↔ u ∈ l.take (k + 1) := fun u => by
  rw [h2, h, List.take_succ_eq_append_getElem hk, List.mem_append, List.mem_singleton, getElem!_pos l k hk]
theorem set_New (l : List GTag) (ag : Option Addr) (ng cg : Nat) (w : World) (hng : ng = l.length) (hb : l.length ≤ 4194304) (hg : SlR w ag ng (l.flatMap GTag.cells)) :
    Calls Try.prog 11 #[.slice ag ng cg] w (fun r_ w' => (∃ sb a n c ys, r_ = .returned (.tuple #[.pointer (some ⟨sb, 0, none⟩), .int .i64 0]) ∧ (∀ i, i < l.length → tagProper l[i]!) ∧ Srt ys ∧ (∀ u, u ∈ ys ↔ u ∈ l) ∧ Hp w Non [Res.row sb [.slice a n c] 52, Res.own 29 2 (.slice a n c) n (List.flatMap GTag.cells ys)] w') ∨ (r_ = .returned (.tuple #[.pointer none, .int .i64 41]) ∧ (∃ i, i < l.length ∧ ¬ tagProper l[i]!) ∧ Fram Non w w')) := by
  refine calls_of Try.func11 rfl 28 rfl (by simp) ?_
  have hp0 := Hp.init w
  have he0 : List.map (env0 [.slice ag ng cg]) [0] = [.slice ag ng cg] := by kernel_rfl
  obtain ⟨b0, he0⟩ := toMk he0
  rw [he0]
  clear he0
  refine WP.seq ?_
  refine WP.pure {} [] [0] [.slice ag ng cg] .nil (by kernel_rfl) (fun b1 => ?_)
  refine thn_n ?_
  refine WP.seq ?_
  refine WP.region _ rfl (by kernel_rfl) ?_
  refine OPS.batch 1 {} [] [0, 9] [.slice ag ng cg, .agg #[.slice none 0 0]] .nil (by kernel_rfl) (fun b2 => ?_)
  refine OPS.cons (opStep.box hp0 [.slice none 0 0] (by kernel_rfl) (fun g5 w3 hp4 => ?_))
  refine OPS.batch 1 {} [] [0, 4] [.slice ag ng cg, .pointer (some ⟨g5, 0, none⟩)] .nil (by kernel_rfl) (fun b6 => ?_)
  refine OPS.nil ?_
  refine thn_n ?_
  refine WP.seq ?_
  refine WP.seq ?_
  refine WP.pure {} [] [4, 11, 12, 13] [.pointer (some ⟨g5, 0, none⟩), .slice ag ng cg, .int .i64 ((ng : Nat) : Int), .int .i64 0] .nil (by kernel_rfl) (fun b7 => ?_)
  refine thn_n ?_
  refine WP.block ?_
  have hp8 := (show Hp w Non [Res.own 29 2 (.slice none 0 0) 0 (List.flatMap GTag.cells ([] : List GTag)), Res.row g5 [.slice none 0 0] 52] w3 from hp4.nilOwn 29 2)
  refine WP.loop (fun mz_ e9 w10 => ∃ (k : Nat) (ys : List GTag) (a : Option Addr) (n : Nat) (c : Nat), mz_ = l.length - k ∧ (k ≤ l.length ∧ Srt ys ∧ (∀ u, u ∈ ys ↔ u ∈ l.take k) ∧ (∀ i, i < k → tagProper l[i]!) ∧ ys.length ≤ k) ∧ List.map e9 [4, 11, 12, 13] = [.pointer (some ⟨g5, 0, none⟩), .slice ag ng cg, .int .i64 ((ng : Nat) : Int), .int .i64 (k : Int)] ∧ Hp w Non [Res.own 29 2 (.slice a n c) n (List.flatMap GTag.cells ys), Res.row g5 [.slice a n c] 52] w10) (l.length - (0)) ⟨0, [], none, 0, 0, rfl, ⟨by omega, fun i j _ hj => by simp at hj, by simp, fun i hi => by omega, by simp⟩, by kernel_rfl, hp8⟩ ?_
  rintro _ e9 w10 ⟨k, ys, a, n, c, rfl, hI12, hE13, hp11⟩
  obtain ⟨b14, rfl⟩ := toMk hE13
  clear hE13
  obtain ⟨pa, pb, pc, pd, pe⟩ := hI12
  have pf := own_flat (sz := 2) (fun _ => rfl) (by decide) hp11.get0
  refine WP.seq ?_
  refine WP.pure {} [] [4, 11, 12, 13, 14] [.pointer (some ⟨g5, 0, none⟩), .slice ag ng cg, .int .i64 ((ng : Nat) : Int), .int .i64 (k : Int), .bool (decide ((k : Int) < ((ng : Nat) : Int)))] .nil (by kernel_rfl) (fun b15 => ?_)
  refine thn_n ?_
  refine WP.seq ?_
  refine WP.test (p := (k : Int) < ((ng : Nat) : Int)) rfl Bp.dec (fun h16 => ?_) (fun h16 => ?_)
  · refine WP.skip ?_
    refine thn_n ?_
    refine WP.seq ?_
    refine WP.block ?_
    refine WP.seq ?_
    refine WP.region _ rfl (by kernel_rfl) ?_
    have hy20 : (l)[k]? = some l[k]! := get_bang (by first | (omega) | (simp only [List.length_append, List.length_cons, List.length_nil]; omega) | (simp only [List.length_take, List.length_append, List.length_cons, List.length_nil]; omega))
    refine OPS.batch 2 {} [GTag.val (l[k]!)] [4, 11, 12, 13, 16] [.pointer (some ⟨g5, 0, none⟩), .slice ag ng cg, .int .i64 ((ng : Nat) : Int), .int .i64 (k : Int), GTag.val (l[k]!)] (.cons (show InB ((k : Int)) (ng) from ⟨by omega, by omega⟩) (.cons ((hg.at hp11).some (by omega)) (.cons (Ld.add0 (Ld.elN (P := Try.prog) (t := 29) (hg.at hp11).rd 2 (fun _ => rfl) hy20 (o := 0) (cs := [.int .i64 (l[k]!.Count), .int .i64 (l[k]!.Client)]) (by kernel_rfl))) .nil))) (by kernel_rfl) (fun b21 => ?_)
    refine OPS.cons (opStep.alloc hp11 [.int .i64 0, .int .i64 0] (by kernel_rfl) (fun g24 w22 hp23 => ?_))
    refine OPS.cons (opStep.store0 hp23 rfl [.int .i64 (l[k]!.Count), .int .i64 (l[k]!.Client)] [.int .i64 (l[k]!.Count), .int .i64 (l[k]!.Client)] (by kernel_rfl) (fun w25 hp26 => ?_))
    refine OPS.nil ?_
    refine thn_n ?_
    refine WP.seq ?_
    refine WP.region _ rfl (by kernel_rfl) ?_
    refine OPS.batch 2 {} [GTag.val (l[k]!)] [4, 11, 12, 13, 18, 19] [.pointer (some ⟨g5, 0, none⟩), .slice ag ng cg, .int .i64 ((ng : Nat) : Int), .int .i64 (k : Int), .pointer (some ⟨g5, 0, none⟩), GTag.val (l[k]!)] (.cons (show Ld Try.prog w25 29 ⟨g24, 0, none⟩ (GTag.val (l[k]!)) from Ld.rowN (cs := [.int .i64 (l[k]!.Count), .int .i64 (l[k]!.Client)]) hp26.get0 (by kernel_rfl)) .nil) (by kernel_rfl) (fun b27 => ?_)
    have hp30 := hp26.pull1
    have hp31 := hp30.pull2
    refine OPS.cons (opStep.call (some 20) [.pointer (some ⟨g5, 0, none⟩), GTag.val (l[k]!)] (by kernel_rfl) (set_Add _ _ ys a n c g5 (l[k]!) _ (by omega) hp31) ?_)
    rintro _ w32 ⟨b34, e35, a36, n37, c38, ys39, rfl, hq40, hp33⟩
    obtain ⟨hs41, hq40⟩ := add_srt pb hq40
    refine ⟨_, rfl, ?_⟩
    refine OPS.batch 5 {} [] [4, 8, 11, 12, 13] [.pointer (some ⟨g5, 0, none⟩), .int .i64 e35, .slice ag ng cg, .int .i64 ((ng : Nat) : Int), .int .i64 (k : Int)] .nil (by kernel_rfl) (fun b42 => ?_)
    refine OPS.nil ?_
    refine thn_n ?_
    refine WP.seq ?_
    refine WP.pure {} [] [4, 8, 11, 12, 13, 24] [.pointer (some ⟨g5, 0, none⟩), .int .i64 e35, .slice ag ng cg, .int .i64 ((ng : Nat) : Int), .int .i64 (k : Int), .bool (decide (¬ (e35 = 0)))] .nil (by kernel_rfl) (fun b43 => ?_)
    refine thn_n ?_
    refine WP.test (p := ¬ (e35 = 0)) rfl Bp.dec (fun h44 => ?_) (fun h44 => ?_)
    · refine WP.seq ?_
      refine WP.pure {} [] [2, 3] [.pointer none, .int .i64 e35] .nil (by kernel_rfl) (fun b45 => ?_)
      refine thn_n ?_
      refine WP.ret ?_
      refine blk_r ?_
      refine thn_r ?_
      refine thn_r ?_
      refine blk_r ?_
      refine thn_r ?_
      refine bodyQ.of _ rfl [.pointer none, .int .i64 e35] ⟨rfl, rfl, trivial⟩ ?_
      rcases hq40 with q | q
      · exact absurd q.2.1 (by have h_ := h44; omega)
      · refine .inr ⟨by rw [q.2.1]; rfl, ⟨k, by omega, q.1⟩, hp33.fr⟩
    · replace h44 := Classical.not_not.1 h44
      refine WP.skip ?_
      refine blk_n ?_
      refine thn_n ?_
      refine WP.pure {} [] [4, 11, 12, 13] [.pointer (some ⟨g5, 0, none⟩), .slice ag ng cg, .int .i64 ((ng : Nat) : Int), .int .i64 ((k : Int) + 1)] (.cons (show Rng .i64 ((k : Int) + 1) from Rng.i64 (by omega)) .nil) (by kernel_rfl) (fun b46 => ?_)
      refine thn_n ?_
      exact ⟨l.length - (k + 1), (by omega), k + 1, ys39, a36, n37, c38, rfl, ⟨by omega, hs41, by rcases hq40 with q | q; exact new_step (by omega) pc q.2.2.1; exact absurd q.2.1 (by have h_ := h44; omega), fun i hi => by by_cases e : i = k; subst e; rcases hq40 with q | q; exact q.1; exact absurd q.2.1 (by have h_ := h44; omega); exact pd i (by omega), by rcases hq40 with q | q; (have := q.2.2.2.2; omega); exact absurd q.2.1 (by have h_ := h44; omega)⟩, by kernel_rfl, (((hp33.pull0).pull1).sub (.cons_cons _ (.cons_cons _ (.cons _ (.slnil)))))⟩
  · refine WP.exit ?_
    refine thn_x ?_
    refine thn_x ?_
    refine blk_hit ?_
    refine thn_n ?_
    refine WP.seq ?_
    refine WP.pure {} [] [2, 3] [.pointer (some ⟨g5, 0, none⟩), .int .i64 0] .nil (by kernel_rfl) (fun b47 => ?_)
    refine thn_n ?_
    refine WP.ret ?_
    refine bodyQ.of _ rfl [.pointer (some ⟨g5, 0, none⟩), .int .i64 0] ⟨rfl, rfl, trivial⟩ ?_
    obtain rfl : k = l.length := by omega
    rw [List.take_of_length_le (Nat.le_refl _)] at pc
    exact .inl ⟨g5, _, _, _, _, rfl, pd, pb, pc, (((hp11.pull0).pull1).sub (.cons_cons _ (.cons_cons _ (.slnil))))⟩

end Go.Proofs.Ytoeholipggkcaaa.K
