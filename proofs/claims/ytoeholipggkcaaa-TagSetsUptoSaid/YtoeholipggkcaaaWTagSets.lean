/- The walks of WTagSets: what each function computes. -/
import Derived.Test.YtoeholipggkcaaaProg
import Derived.Test.YtoeholipggkcaaaCoreO
import Derived.Test.YtoeholipggkcaaaSetN
import Derived.Test.YtoeholipggkcaaaCoreQ
import Derived.Test.YtoeholipggkcaaaOpen
namespace Go.Proofs.Ytoeholipggkcaaa.K
open Go Go.Proofs Go.RowKit
set_option linter.unusedVariables false
set_option linter.unusedSimpArgs false
set_option maxRecDepth 20000
set_option maxHeartbeats 4000000

theorem nodup_sub : ∀ {xs l : List GTag}, xs.Nodup → (∀ u, u ∈ xs → u ∈ l) → xs.length ≤ l.length
  | [], l, _, _ => Nat.zero_le _
  | x :: xs, l, h, hs => by
    obtain ⟨h1, h2⟩ := List.nodup_cons.1 h
    obtain ⟨p, q, rfl⟩ := List.append_of_mem (hs x (List.mem_cons_self))
    have := nodup_sub (l := p ++ q) h2 fun u hu => by
      have h3 := hs u (List.mem_cons_of_mem _ hu)
      rw [List.mem_append, List.mem_cons] at h3
      rw [List.mem_append]
      rcases h3 with h3 | rfl | h3
      · exact .inl h3
      · exact absurd hu h1
      · exact .inr h3
    simp only [List.length_append, List.length_cons] at *
    omega
theorem len_set {l ys : List GTag} {n : Nat} (hn : n = l.length) (hs : Srt ys) (h : ∀ u, u ∈ ys ↔ u ∈ l) : ys.length ≤ n + 0 := by
  rw [hn]
  exact nodup_sub (srt_nodup hs) fun u hu => (h u).1 hu
theorem TagSets (l : List GTag) (sc : List Gsherdlaw08_Op) (a1 : Option Addr) (n1 c1 : Nat) (a2 : Option Addr) (n2 c2 : Nat) (w : World) (hn1 : n1 = l.length) (hb1 : l.length ≤ 1048576) (hs1 : SlR w a1 n1 (l.flatMap GTag.cells)) (hn2 : n2 = sc.length) (hb2 : sc.length ≤ 1048576) (hs2 : SlR w a2 n2 (sc.flatMap Gsherdlaw08_Op.cells)) (hN : ∀ x ∈ sc, -9223372036854775808 ≤ x.N ∧ x.N ≤ 9223372036854775807) :
    Calls Try.prog 3 #[.slice a1 n1 c1, .slice a2 n2 c2] w (fun x w' => x = .returned (.bool true) ∧ Fram Non w w') := by
  refine calls_of Try.func3 rfl 131 rfl (by simp) ?_
  have hp0 := Hp.init w
  have he0 : List.map (env0 [.slice a1 n1 c1, .slice a2 n2 c2]) [0, 1] = [.slice a1 n1 c1, .slice a2 n2 c2] := by kernel_rfl
  obtain ⟨b0, he0⟩ := toMk he0
  rw [he0]
  clear he0
  refine WP.seq ?_
  refine WP.pure {} [] [0, 1] [.slice a1 n1 c1, .slice a2 n2 c2] .nil (by kernel_rfl) (fun b1 => ?_)
  refine thn_n ?_
  refine WP.seq ?_
  refine WP.pure {} [] [0, 1, 5] [.slice a1 n1 c1, .slice a2 n2 c2, .pointer none] .nil (by kernel_rfl) (fun b2 => ?_)
  refine thn_n ?_
  refine WP.seq ?_
  refine WP.seq ?_
  refine WP.region _ rfl (by kernel_rfl) ?_
  refine OPS.batch 2 {} [] [0, 1, 5, 18, 19] [.slice a1 n1 c1, .slice a2 n2 c2, .pointer none, .pointer none, .agg #[.int .i64 1, .int .i64 1]] .nil (by kernel_rfl) (fun b3 => ?_)
  refine OPS.cons (opStep.call (some 20) [.pointer none, .agg #[.int .i64 1, .int .i64 1]] (by kernel_rfl) (nil_Add (⟨1, 1⟩ : GTag) _) ?_)
  rintro _ w6 ⟨rfl, hf7⟩
  refine ⟨_, rfl, ?_⟩
  have hp8 := hp0.step hf7
  refine OPS.batch 5 {} [] [0, 1, 5, 7] [.slice a1 n1 c1, .slice a2 n2 c2, .pointer none, .int .i64 0] .nil (by kernel_rfl) (fun b9 => ?_)
  refine OPS.nil ?_
  refine thn_n ?_
  refine WP.seq ?_
  refine WP.region _ rfl (by kernel_rfl) ?_
  refine OPS.batch 5 {} [] [0, 1, 5, 25, 26, 27] [.slice a1 n1 c1, .slice a2 n2 c2, .pointer none, .bool false, .pointer none, .agg #[.int .i64 0, .int .i64 0]] .nil (by kernel_rfl) (fun b10 => ?_)
  refine OPS.want (by kernel_rfl) ?_
  refine OPS.cons (opStep.call (some 28) [.pointer none, .agg #[.int .i64 0, .int .i64 0]] (by kernel_rfl) (nil_Has (⟨0, 0⟩ : GTag) _) ?_)
  rintro _ w13 ⟨rfl, hf14⟩
  refine ⟨_, rfl, ?_⟩
  have hp15 := hp8.step hf14
  refine OPS.batch 3 { wraps := [29] } [] [0, 1, 5, 30, 31] [.slice a1 n1 c1, .slice a2 n2 c2, .pointer none, .bool false, .pointer none] .nil (by kernel_rfl) (fun b16 => ?_)
  refine OPS.want (by kernel_rfl) ?_
  refine OPS.cons (opStep.call (some 32) [.pointer none] (by kernel_rfl) (nil_Len _) ?_)
  rintro _ w19 ⟨rfl, hf20⟩
  refine ⟨_, rfl, ?_⟩
  have hp21 := hp15.step hf20
  refine OPS.batch 5 { wraps := [34] } [] [0, 1, 5, 35, 36, 37] [.slice a1 n1 c1, .slice a2 n2 c2, .pointer none, .bool false, .pointer none, .agg #[.int .i64 9, .int .i64 0]] .nil (by kernel_rfl) (fun b22 => ?_)
  refine OPS.want (by kernel_rfl) ?_
  refine OPS.cons (opStep.call (some 38) [.pointer none, .agg #[.int .i64 9, .int .i64 0]] (by kernel_rfl) (nil_Cut (⟨9, 0⟩ : GTag) _) ?_)
  rintro _ w25 ⟨rfl, hf26⟩
  refine ⟨_, rfl, ?_⟩
  have hp27 := hp21.step hf26
  refine OPS.batch 5 { wraps := [40] } [] [0, 1, 5, 41, 42, 43] [.slice a1 n1 c1, .slice a2 n2 c2, .pointer none, .bool false, .pointer none, .agg #[.int .i64 0, .int .i64 0]] .nil (by kernel_rfl) (fun b28 => ?_)
  refine OPS.want (by kernel_rfl) ?_
  refine OPS.cons (opStep.call (some 44) [.pointer none, .agg #[.int .i64 0, .int .i64 0]] (by kernel_rfl) (nil_From (⟨0, 0⟩ : GTag) _) ?_)
  rintro _ w31 ⟨rfl, hf32⟩
  refine ⟨_, rfl, ?_⟩
  have hp33 := hp27.step hf32
  refine OPS.batch 3 { wraps := [47] } [] [0, 1, 5, 47] [.slice a1 n1 c1, .slice a2 n2 c2, .pointer none, .bool false] .nil (by kernel_rfl) (fun b34 => ?_)
  refine OPS.nil ?_
  refine thn_n ?_
  refine WP.condF rfl ?_
  refine WP.skip ?_
  refine thn_n ?_
  refine WP.seq ?_
  refine WP.seq ?_
  refine WP.region _ rfl (by kernel_rfl) ?_
  refine OPS.batch 1 {} [] [0, 1, 49] [.slice a1 n1 c1, .slice a2 n2 c2, .pointer none] .nil (by kernel_rfl) (fun b35 => ?_)
  refine OPS.cons (opStep.call (some 50) [.pointer none, .int .i64 0] (by kernel_rfl) (nil_High 0 _) ?_)
  rintro _ w38 ⟨rfl, hf39⟩
  refine ⟨_, rfl, ?_⟩
  have hp40 := hp33.step hf39
  refine OPS.batch 3 {} [] [0, 1, 51, 52] [.slice a1 n1 c1, .slice a2 n2 c2, .agg #[.int .i64 0, .int .i64 0], .int .i64 0] .nil (by kernel_rfl) (fun b41 => ?_)
  refine OPS.cons (opStep.alloc hp40 [.int .i64 0, .int .i64 0] (by kernel_rfl) (fun g44 w42 hp43 => ?_))
  refine OPS.cons (opStep.store0 hp43 rfl [.int .i64 0, .int .i64 0] [.int .i64 0, .int .i64 0] (by kernel_rfl) (fun w45 hp46 => ?_))
  refine OPS.batch 1 {} [] [0, 1, 8, 9] [.slice a1 n1 c1, .slice a2 n2 c2, .pointer (some ⟨g44, 0, none⟩), .int .i64 0] .nil (by kernel_rfl) (fun b47 => ?_)
  refine OPS.nil ?_
  refine thn_n ?_
  refine WP.seq ?_
  refine WP.pure { wraps := [59] } [.agg #[.int .i64 0, .int .i64 0]] [0, 1, 59] [.slice a1 n1 c1, .slice a2 n2 c2, .bool (!((decide (0 = 0)) && ((decide (0 = 0)) && true)))] (.cons (show Ld Try.prog w45 29 ⟨g44, 0, none⟩ (.agg #[.int .i64 0, .int .i64 0]) from Ld.rowN (cs := [.int .i64 0, .int .i64 0]) hp46.get0 (by kernel_rfl)) .nil) (by kernel_rfl) (fun b48 => ?_)
  refine thn_n ?_
  refine WP.test (p := ¬ ((0 = 0) ∧ (0 = 0))) rfl (Bp.not (Bp.band Bp.dec (Bp.band1 Bp.dec))) (fun h49 => ?_) (fun h49 => ?_)
  · refine WP.seq ?_
    refine WP.pure {} [] [4] [.bool false] .nil (by kernel_rfl) (fun b50 => ?_)
    refine thn_n ?_
    refine WP.ret ?_
    refine thn_r ?_
    refine bodyQ.of _ rfl [.bool false] ⟨rfl, trivial⟩ ?_
    exfalso
    have h_ := h49
    first | omega | (simp at h_; done) | (simp at h_; omega)
  · replace h49 := Classical.not_not.1 h49
    refine WP.skip ?_
    refine thn_n ?_
    refine WP.seq ?_
    refine WP.region _ rfl (by kernel_rfl) ?_
    refine OPS.batch 1 {} [] [0, 1, 60] [.slice a1 n1 c1, .slice a2 n2 c2, .slice a1 n1 c1] .nil (by kernel_rfl) (fun b51 => ?_)
    refine OPS.cons (opStep.call (some 61) [.slice a1 n1 c1] (by kernel_rfl) (t8_tags l _ n1 _ _ hn1 (by omega) (hs1.at hp46)) ?_)
    rintro _ w54 ⟨a57, c58, rfl, hp55⟩
    refine ⟨_, rfl, ?_⟩
    have hp56 := hp46.madeQ hp55
    simp only [List.cons_append, List.nil_append] at hp56
    refine OPS.batch 1 {} [] [0, 1, 10] [.slice a1 n1 c1, .slice a2 n2 c2, .slice a57 n1 c58] .nil (by kernel_rfl) (fun b59 => ?_)
    refine OPS.nil ?_
    refine thn_n ?_
    refine WP.seq ?_
    refine WP.region _ rfl (by kernel_rfl) ?_
    refine OPS.batch 1 {} [] [0, 1, 10, 63] [.slice a1 n1 c1, .slice a2 n2 c2, .slice a57 n1 c58, .slice a57 n1 c58] .nil (by kernel_rfl) (fun b60 => ?_)
    refine OPS.cons (opStep.call (some 64) [.slice a57 n1 c58] (by kernel_rfl) (set_New l a57 n1 c58 _ hn1 (by omega) (slr_given hn1 (SlR.own hp56.get0))) ?_)
    rintro _ w63 (⟨b65, a66, n67, c68, ys69, rfl, hp70, hd71, hm72, hp64⟩ | ⟨rfl, ⟨i75, hi76, hn77⟩, hf78⟩)
    · have hp73 := hp56.madeQ hp64
      simp only [List.cons_append, List.nil_append] at hp73
      refine ⟨_, rfl, ?_⟩
      refine OPS.batch 5 {} [] [0, 1, 10, 11, 12] [.slice a1 n1 c1, .slice a2 n2 c2, .slice a57 n1 c58, .pointer (some ⟨b65, 0, none⟩), .int .i64 0] .nil (by kernel_rfl) (fun b80 => ?_)
      refine OPS.nil ?_
      refine thn_n ?_
      refine WP.seq ?_
      refine WP.region _ rfl (by kernel_rfl) ?_
      refine OPS.batch 1 {} [] [0, 1, 10, 11, 12, 68] [.slice a1 n1 c1, .slice a2 n2 c2, .slice a57 n1 c58, .pointer (some ⟨b65, 0, none⟩), .int .i64 0, .slice a1 n1 c1] .nil (by kernel_rfl) (fun b81 => ?_)
      refine OPS.cons (opStep.call (some 69) [.slice a1 n1 c1] (by kernel_rfl) (ref_New l a1 n1 c1 _ hn1 (by omega) ((hs1.at hp73))) ?_)
      rintro _ w84 (⟨b86, a87, n88, c89, ys90, rfl, hp91, hd92, hm93, hp85⟩ | ⟨rfl, ⟨i96, hi97, hn98⟩, hf99⟩)
      · have hp94 := hp73.madeQ hp85
        simp only [List.cons_append, List.nil_append] at hp94
        have E : Eqv ys69 ys90 := ⟨hd71, hd92, fun u => (hm72 u).trans (hm93 u).symm⟩
        have El := len_set hn1 hd71 hm72
        refine ⟨_, rfl, ?_⟩
        refine OPS.batch 5 {} [] [0, 1, 10, 11, 12, 13, 14] [.slice a1 n1 c1, .slice a2 n2 c2, .slice a57 n1 c58, .pointer (some ⟨b65, 0, none⟩), .int .i64 0, .pointer (some ⟨b86, 0, none⟩), .int .i64 0] .nil (by kernel_rfl) (fun b101 => ?_)
        refine OPS.nil ?_
        refine thn_n ?_
        refine WP.seq ?_
        refine WP.cut (fun e117 w118 => ∃ (x115 : Bool), (True) ∧ Bp x115 ((¬ (((False) ↔ (False))))) ∧ List.map e117 [1, 10, 11, 13, 87] = [.slice a2 n2 c2, .slice a57 n1 c58, .pointer (some ⟨b65, 0, none⟩), .pointer (some ⟨b86, 0, none⟩), .bool x115] ∧ Hp w Non [Res.row b86 [.slice a87 n88 c89] 55, Res.own 29 2 (.slice a87 n88 c89) n88 (List.flatMap GTag.cells ys90), Res.row b65 [.slice a66 n67 c68] 52, Res.own 29 2 (.slice a66 n67 c68) n67 (List.flatMap GTag.cells ys69), Res.own 29 2 (.slice a57 (n1 + 1) c58) (n1 + 1) (List.flatMap GTag.cells (l ++ [(⟨-77, 0⟩ : GTag)])), Res.row g44 [.int .i64 0, .int .i64 0] 29] w118) ?_ ?_
        · refine WP.region _ rfl (by kernel_rfl) ?_
          refine OPS.batch 11 { wraps := [81] } [] [0, 1, 10, 11, 13, 82] [.slice a1 n1 c1, .slice a2 n2 c2, .slice a57 n1 c58, .pointer (some ⟨b65, 0, none⟩), .pointer (some ⟨b86, 0, none⟩), .bool (!(false == false))] .nil (by kernel_rfl) (fun b103 => ?_)
          by_cases h104 : ((False) ↔ (False))
          · refine OPS.batch 0 {} [] [0, 1, 10, 11, 13, 82] [.slice a1 n1 c1, .slice a2 n2 c2, .slice a57 n1 c58, .pointer (some ⟨b65, 0, none⟩), .pointer (some ⟨b86, 0, none⟩), .bool (!(false == false))] .nil (by kernel_rfl) (fun b107 => ?_)
            refine OPS.re [.slice a1 n1 c1, .slice a2 n2 c2, .slice a57 n1 c58, .pointer (some ⟨b65, 0, none⟩), .pointer (some ⟨b86, 0, none⟩), .bool false] (by rw [show (!(false == false)) = false from (Bp.not (Bp.beq Bp.f Bp.f)).ff (fun k => k h104)]) ?_
            refine OPS.batch 2 {} [] [1, 10, 11, 13, 82, 83, 84] [.slice a2 n2 c2, .slice a57 n1 c58, .pointer (some ⟨b65, 0, none⟩), .pointer (some ⟨b86, 0, none⟩), .bool false, .slice a57 n1 c58, .slice a1 n1 c1] .nil (by kernel_rfl) (fun b108 => ?_)
            refine OPS.want (by kernel_rfl) ?_
            refine OPS.cons (opStep.call (some 85) [.slice a57 n1 c58, .slice a1 n1 c1] (by kernel_rfl) (t8_kept l _ _ n1 _ _ _ hn1 (by omega) (own_cap hp94.get4) (SlR.own hp94.get4) (hs1.at hp94)) ?_)
            rintro _ w111 ⟨rfl, hf112⟩
            refine ⟨_, rfl, ?_⟩
            have hp113 := hp94.step hf112
            refine OPS.batch 2 { wraps := [87] } [] [1, 10, 11, 13, 87] [.slice a2 n2 c2, .slice a57 n1 c58, .pointer (some ⟨b65, 0, none⟩), .pointer (some ⟨b86, 0, none⟩), .bool false] .nil (by kernel_rfl) (fun b114 => ?_)
            refine OPS.nil ?_
            refine thn_n ?_
            exact ⟨false, trivial, Bp.of Bp.f (by first | (simp only [h104, iff_false, false_iff, iff_true, true_iff, Classical.not_not, and_true, true_and, and_false, false_and, or_true, true_or, or_false, false_or, not_true_eq_false, not_false_eq_true, and_self, or_self, iff_self]; done) | (simp [h104]; done) | grind | (simp_all; done)), by kernel_rfl, hp113⟩
          · refine OPS.batch 0 {} [] [0, 1, 10, 11, 13, 82] [.slice a1 n1 c1, .slice a2 n2 c2, .slice a57 n1 c58, .pointer (some ⟨b65, 0, none⟩), .pointer (some ⟨b86, 0, none⟩), .bool (!(false == false))] .nil (by kernel_rfl) (fun b105 => ?_)
            refine OPS.re [.slice a1 n1 c1, .slice a2 n2 c2, .slice a57 n1 c58, .pointer (some ⟨b65, 0, none⟩), .pointer (some ⟨b86, 0, none⟩), .bool true] (by rw [show (!(false == false)) = true from (Bp.not (Bp.beq Bp.f Bp.f)).tt h104]) ?_
            refine OPS.batch 5 { wraps := [87] } [] [1, 10, 11, 13, 87] [.slice a2 n2 c2, .slice a57 n1 c58, .pointer (some ⟨b65, 0, none⟩), .pointer (some ⟨b86, 0, none⟩), .bool true] .nil (by kernel_rfl) (fun b106 => ?_)
            refine OPS.nil ?_
            refine thn_n ?_
            exact ⟨true, trivial, Bp.of Bp.t (by first | (simp only [h104, iff_false, false_iff, iff_true, true_iff, Classical.not_not, and_true, true_and, and_false, false_and, or_true, true_or, or_false, false_or, not_true_eq_false, not_false_eq_true, and_self, or_self, iff_self]; done) | (simp [h104]; done) | grind | (simp_all; done)), by kernel_rfl, hp94⟩
        rintro e117 w118 ⟨x115, hd120, hb116, hE121, hp119⟩
        obtain ⟨b122, rfl⟩ := toMk hE121
        clear hE121
        clear hd120
        refine WP.test (p := (¬ (((False) ↔ (False))))) rfl hb116 (fun h123 => ?_) (fun h123 => ?_)
        · refine WP.seq ?_
          refine WP.pure {} [] [4] [.bool false] .nil (by kernel_rfl) (fun b124 => ?_)
          refine thn_n ?_
          refine WP.ret ?_
          refine thn_r ?_
          refine bodyQ.of _ rfl [.bool false] ⟨rfl, trivial⟩ ?_
          exfalso
          have h_ := h123
          first | omega | (simp at h_; done) | (simp at h_; omega)
        · refine WP.skip ?_
          refine thn_n ?_
          refine WP.seq ?_
          refine WP.seq ?_
          refine WP.pure {} [] [1, 10, 11, 13, 89] [.slice a2 n2 c2, .slice a57 n1 c58, .pointer (some ⟨b65, 0, none⟩), .pointer (some ⟨b86, 0, none⟩), .bool false] .nil (by kernel_rfl) (fun b125 => ?_)
          refine thn_n ?_
          refine WP.condF rfl ?_
          refine WP.skip ?_
          refine thn_n ?_
          refine WP.seq ?_
          refine WP.seq ?_
          refine WP.pure {} [] [1, 10, 11, 13, 15] [.slice a2 n2 c2, .slice a57 n1 c58, .pointer (some ⟨b65, 0, none⟩), .pointer (some ⟨b86, 0, none⟩), .int .i64 0] .nil (by kernel_rfl) (fun b126 => ?_)
          refine thn_n ?_
          refine WP.block ?_
          have hp127 := hp119.turn4 (Res.own 29 2 (.slice a57 n1 c58) n1 (List.flatMap GTag.cells (List.take n1 (l ++ [(⟨-77, 0⟩ : GTag)])))) (fun hh => by rw [← flat_take (sz := 2) (fun _ => rfl)]; exact own_cut (by omega) hh) own_foot
          refine WP.loop (fun mz_ e128 w129 => ∃ (k : Nat) (zs : List GTag), mz_ = n1 - k ∧ (k ≤ n1 ∧ zs.length = n1) ∧ List.map e128 [1, 10, 11, 13, 15] = [.slice a2 n2 c2, .slice a57 n1 c58, .pointer (some ⟨b65, 0, none⟩), .pointer (some ⟨b86, 0, none⟩), .int .i64 (k : Int)] ∧ Hp w Non [Res.row b86 [.slice a87 n88 c89] 55, Res.own 29 2 (.slice a87 n88 c89) n88 (List.flatMap GTag.cells ys90), Res.row b65 [.slice a66 n67 c68] 52, Res.own 29 2 (.slice a66 n67 c68) n67 (List.flatMap GTag.cells ys69), Res.own 29 2 (.slice a57 n1 c58) n1 (List.flatMap GTag.cells zs), Res.row g44 [.int .i64 0, .int .i64 0] 29] w129) (n1 - (0)) ⟨0, List.take n1 (l ++ [(⟨-77, 0⟩ : GTag)]), rfl, ⟨by omega, by rw [List.length_take, List.length_append]; omega⟩, by kernel_rfl, hp127⟩ ?_
          rintro _ e128 w129 ⟨k, zs, rfl, hI131, hE132, hp130⟩
          obtain ⟨b133, rfl⟩ := toMk hE132
          clear hE132
          obtain ⟨pa, pb⟩ := hI131
          refine WP.seq ?_
          refine WP.seq ?_
          refine WP.pure {} [] [1, 10, 11, 13, 15, 93] [.slice a2 n2 c2, .slice a57 n1 c58, .pointer (some ⟨b65, 0, none⟩), .pointer (some ⟨b86, 0, none⟩), .int .i64 (k : Int), .bool (decide ((k : Int) < ((n1 : Nat) : Int)))] .nil (by kernel_rfl) (fun b134 => ?_)
          refine thn_n ?_
          refine WP.test (p := (k : Int) < ((n1 : Nat) : Int)) rfl Bp.dec (fun h135 => ?_) (fun h135 => ?_)
          · refine WP.skip ?_
            refine thn_n ?_
            refine WP.seq ?_
            refine WP.block ?_
            refine WP.region _ rfl (by kernel_rfl) ?_
            refine OPS.batch 4 {} [] [1, 10, 11, 13, 15, 98, 99] [.slice a2 n2 c2, .slice a57 n1 c58, .pointer (some ⟨b65, 0, none⟩), .pointer (some ⟨b86, 0, none⟩), .int .i64 (k : Int), .agg #[.int .i64 5, .int .i64 5], .pointer (some ((adr a57).add (k * 2)))] (.cons (show InB ((k : Int)) (n1) from ⟨by omega, by omega⟩) (.cons ((SlR.own (hp130.get4)).some (by omega)) .nil)) (by kernel_rfl) (fun b136 => ?_)
            have := own_flat (sz := 2) (fun _ => rfl) (by decide) hp130.get4
            try simp only [List.length_set] at this
            refine OPS.cons (opStep.storeOwn4 (k * 2) hp130 rfl [.int .i64 5, .int .i64 5] (by kernel_rfl) (by simp) (show k * 2 + 2 ≤ n1 * 2 by omega) (fun w137 hp138 => ?_))
            have hp139 := hp138
            rw [show ow (List.flatMap GTag.cells zs) (k * 2) [.int .i64 5, .int .i64 5] = List.flatMap GTag.cells (zs.set k (⟨5, 5⟩ : GTag)) from ow_flat (sz := 2) (fun _ => rfl) (by first | (omega) | (simp only [List.length_set]; omega)) (⟨5, 5⟩ : GTag)] at hp139
            refine OPS.nil ?_
            refine blk_n ?_
            refine thn_n ?_
            refine WP.pure {} [] [1, 10, 11, 13, 15] [.slice a2 n2 c2, .slice a57 n1 c58, .pointer (some ⟨b65, 0, none⟩), .pointer (some ⟨b86, 0, none⟩), .int .i64 ((k : Int) + 1)] (.cons (show Rng .i64 ((k : Int) + 1) from Rng.i64 (by omega)) .nil) (by kernel_rfl) (fun b140 => ?_)
            refine thn_n ?_
            exact ⟨n1 - (k + 1), (by omega), k + 1, zs.set k (⟨5, 5⟩ : GTag), rfl, ⟨by omega, by rw [List.length_set]; omega⟩, by kernel_rfl, hp139⟩
          · refine WP.exit ?_
            refine thn_x ?_
            refine thn_x ?_
            refine blk_hit ?_
            refine thn_n ?_
            refine WP.seq ?_
            refine WP.seq ?_
            refine WP.pure {} [] [1, 11, 13, 16] [.slice a2 n2 c2, .pointer (some ⟨b65, 0, none⟩), .pointer (some ⟨b86, 0, none⟩), .int .i64 0] .nil (by kernel_rfl) (fun b141 => ?_)
            refine thn_n ?_
            refine WP.block ?_
            refine WP.loop (fun mz_ e142 w143 => ∃ (m : Nat) (ys : List GTag) (rs : List GTag) (ay : Option Addr) (ny : Nat) (cy : Nat) (az : Option Addr) (nz : Nat) (cz : Nat), mz_ = sc.length - m ∧ (m ≤ sc.length ∧ Eqv ys rs ∧ ys.length ≤ n1 + m) ∧ List.map e142 [1, 11, 13, 16] = [.slice a2 n2 c2, .pointer (some ⟨b65, 0, none⟩), .pointer (some ⟨b86, 0, none⟩), .int .i64 (m : Int)] ∧ Hp w Non [Res.row b65 [.slice ay ny cy] 52, Res.own 29 2 (.slice ay ny cy) ny (List.flatMap GTag.cells ys), Res.row b86 [.slice az nz cz] 55, Res.own 29 2 (.slice az nz cz) nz (List.flatMap GTag.cells rs)] w143) (sc.length - (0)) ⟨0, ys69, ys90, a66, n67, c68, a87, n88, c89, rfl, ⟨by omega, E, El⟩, by kernel_rfl, (((((hp130.pull1).pull1).pull3).pull3).sub (.cons_cons _ (.cons_cons _ (.cons_cons _ (.cons_cons _ (.cons _ (.cons _ (.slnil))))))))⟩ ?_
            rintro _ e142 w143 ⟨m, ys, rs, ay, ny, cy, az, nz, cz, rfl, hI145, hE146, hp144⟩
            obtain ⟨b147, rfl⟩ := toMk hE146
            clear hE146
            obtain ⟨ma, E, mc⟩ := hI145
            have me := own_flat (sz := 2) (fun _ => rfl) (by decide) hp144.get1
            have me2 := E.len
            have me3 := own_flat (sz := 2) (fun _ => rfl) (by decide) hp144.get3
            refine WP.seq ?_
            refine WP.seq ?_
            refine WP.pure {} [] [1, 11, 13, 16, 103] [.slice a2 n2 c2, .pointer (some ⟨b65, 0, none⟩), .pointer (some ⟨b86, 0, none⟩), .int .i64 (m : Int), .bool (decide ((m : Int) < ((n2 : Nat) : Int)))] .nil (by kernel_rfl) (fun b148 => ?_)
            refine thn_n ?_
            refine WP.test (p := (m : Int) < ((n2 : Nat) : Int)) rfl Bp.dec (fun h149 => ?_) (fun h149 => ?_)
            · refine WP.skip ?_
              refine thn_n ?_
              refine WP.seq ?_
              refine WP.block ?_
              refine WP.seq ?_
              refine WP.region _ rfl (by kernel_rfl) ?_
              have hy153 : (sc)[m]? = some sc[m]! := get_bang (by first | (omega) | (simp only [List.length_append, List.length_cons, List.length_nil]; omega) | (simp only [List.length_take, List.length_append, List.length_cons, List.length_nil]; omega))
              refine OPS.batch 6 {} [Gsherdlaw08_Op.val (sc[m]!)] [1, 11, 13, 16, 106, 107, 111] [.slice a2 n2 c2, .pointer (some ⟨b65, 0, none⟩), .pointer (some ⟨b86, 0, none⟩), .int .i64 (m : Int), .pointer (some ⟨b65, 0, none⟩), .pointer (some ⟨b86, 0, none⟩), Gsherdlaw08_Op.val (sc[m]!)] (.cons (show InB ((m : Int)) (n2) from ⟨by omega, by omega⟩) (.cons ((hs2.at hp144).some (by omega)) (.cons (Ld.add0 (Ld.elN (P := Try.prog) (t := 45) (hs2.at hp144).rd 4 (fun _ => rfl) hy153 (o := 0) (cs := [.int .i64 (sc[m]!.Kind), .int .i64 (sc[m]!.T.Count), .int .i64 (sc[m]!.T.Client), .int .i64 (sc[m]!.N)]) (by kernel_rfl))) .nil))) (by kernel_rfl) (fun b154 => ?_)
              have hp157 := hp144.pull3
              have hp158 := hp157.pull3
              have hp159 := hp158.pull3
              have hp160 := hp159.pull3
              refine OPS.cons (opStep.call (some 112) [.pointer (some ⟨b65, 0, none⟩), .pointer (some ⟨b86, 0, none⟩), Gsherdlaw08_Op.val (sc[m]!)] (by kernel_rfl) (law_step _ _ ys rs ay ny cy b65 az nz cz b86 (sc[m]!) (hN _ (List.mem_of_getElem? (get_bang (by omega)))) _ E (by omega) hp160) ?_)
              rintro _ w161 ⟨ys167, a164, n165, c166, rs171, a168, n169, c170, rfl, ⟨hE172, hl173⟩, hp162⟩
              have hz174 := own_flat (sz := 2) (fun _ => rfl) (by decide) hp162.get1
              have hz175 := own_flat (sz := 2) (fun _ => rfl) (by decide) hp162.get3
              have hE172l := hE172.len
              refine ⟨_, rfl, ?_⟩
              refine OPS.batch 3 {} [] [1, 11, 13, 16, 114, 115] [.slice a2 n2 c2, .pointer (some ⟨b65, 0, none⟩), .pointer (some ⟨b86, 0, none⟩), .int .i64 (m : Int), .bool false, .pointer (some ⟨b65, 0, none⟩)] .nil (by kernel_rfl) (fun b176 => ?_)
              refine OPS.want (by kernel_rfl) ?_
              refine OPS.cons (opStep.call (some 116) [.pointer (some ⟨b65, 0, none⟩)] (by kernel_rfl) (set_Len ys167 a164 n165 c166 b65 _ (own_flat (sz := 2) (fun _ => rfl) (by decide) hp162.get1).symm (by have h_ := own_flat (sz := 2) (fun _ => rfl) (by decide) hp162.get1; omega) (SlR.own hp162.get1) hp162.get0) ?_)
              rintro _ w179 ⟨rfl, hf180⟩
              refine ⟨_, rfl, ?_⟩
              have hp181 := hp162.step hf180
              refine OPS.batch 1 {} [] [1, 11, 13, 16, 114, 116, 117] [.slice a2 n2 c2, .pointer (some ⟨b65, 0, none⟩), .pointer (some ⟨b86, 0, none⟩), .int .i64 (m : Int), .bool false, .int .i64 ((n165 : Nat) : Int), .pointer (some ⟨b86, 0, none⟩)] .nil (by kernel_rfl) (fun b182 => ?_)
              refine OPS.want (by kernel_rfl) ?_
              refine OPS.cons (opStep.call (some 118) [.pointer (some ⟨b86, 0, none⟩)] (by kernel_rfl) (ref_Len rs171 a168 n169 c170 b86 _ (own_flat (sz := 2) (fun _ => rfl) (by decide) hp181.get3).symm (by have h_ := own_flat (sz := 2) (fun _ => rfl) (by decide) hp181.get3; omega) (SlR.own hp181.get3) hp181.get2) ?_)
              rintro _ w185 ⟨rfl, hf186⟩
              refine ⟨_, rfl, ?_⟩
              have hp187 := hp181.step hf186
              refine OPS.batch 2 { wraps := [120] } [] [1, 11, 13, 16, 120] [.slice a2 n2 c2, .pointer (some ⟨b65, 0, none⟩), .pointer (some ⟨b86, 0, none⟩), .int .i64 (m : Int), .bool (decide (¬ (((n165 : Nat) : Int) = ((n169 : Nat) : Int))))] .nil (by kernel_rfl) (fun b188 => ?_)
              refine OPS.nil ?_
              refine thn_n ?_
              refine WP.test (p := ¬ (((n165 : Nat) : Int) = ((n169 : Nat) : Int))) rfl Bp.dec (fun h189 => ?_) (fun h189 => ?_)
              · refine WP.seq ?_
                refine WP.pure {} [] [4] [.bool false] .nil (by kernel_rfl) (fun b190 => ?_)
                refine thn_n ?_
                refine WP.ret ?_
                refine blk_r ?_
                refine thn_r ?_
                refine thn_r ?_
                refine blk_r ?_
                refine thn_r ?_
                refine bodyQ.of _ rfl [.bool false] ⟨rfl, trivial⟩ ?_
                exfalso
                have h_ := h189
                first | omega | (simp at h_; done) | (simp at h_; omega)
              · replace h189 := Classical.not_not.1 h189
                refine WP.skip ?_
                refine blk_n ?_
                refine thn_n ?_
                refine WP.pure {} [] [1, 11, 13, 16] [.slice a2 n2 c2, .pointer (some ⟨b65, 0, none⟩), .pointer (some ⟨b86, 0, none⟩), .int .i64 ((m : Int) + 1)] (.cons (show Rng .i64 ((m : Int) + 1) from Rng.i64 (by omega)) .nil) (by kernel_rfl) (fun b191 => ?_)
                refine thn_n ?_
                exact ⟨sc.length - (m + 1), (by omega), m + 1, ys167, rs171, a164, n165, c166, a168, n169, c170, rfl, ⟨by omega, hE172, by omega⟩, by kernel_rfl, hp187⟩
            · refine WP.exit ?_
              refine thn_x ?_
              refine thn_x ?_
              refine blk_hit ?_
              refine thn_n ?_
              refine WP.seq ?_
              refine WP.region _ rfl (by kernel_rfl) ?_
              refine OPS.batch 3 {} [] [11, 13, 121, 122, 123] [.pointer (some ⟨b65, 0, none⟩), .pointer (some ⟨b86, 0, none⟩), .pointer (some ⟨b65, 0, none⟩), .pointer (some ⟨b86, 0, none⟩), .agg #[.int .i64 3, .int .i64 0, .int .i64 0, .int .i64 0]] .nil (by kernel_rfl) (fun b192 => ?_)
              have hp195 := hp144.pull3
              have hp196 := hp195.pull3
              have hp197 := hp196.pull3
              have hp198 := hp197.pull3
              refine OPS.cons (opStep.call (some 124) [.pointer (some ⟨b65, 0, none⟩), .pointer (some ⟨b86, 0, none⟩), .agg #[.int .i64 3, .int .i64 0, .int .i64 0, .int .i64 0]] (by kernel_rfl) (law_step _ _ ys rs ay ny cy b65 az nz cz b86 (⟨3, (⟨0, 0⟩ : GTag), 0⟩ : Gsherdlaw08_Op) ⟨by decide, by decide⟩ _ E (by omega) hp198) ?_)
              rintro _ w199 ⟨ys205, a202, n203, c204, rs209, a206, n207, c208, rfl, ⟨hE210, hl211⟩, hp200⟩
              have hz212 := own_flat (sz := 2) (fun _ => rfl) (by decide) hp200.get1
              have hz213 := own_flat (sz := 2) (fun _ => rfl) (by decide) hp200.get3
              have hE210l := hE210.len
              refine ⟨_, rfl, ?_⟩
              refine OPS.batch 4 {} [] [125, 126, 127, 128] [.bool true, .pointer (some ⟨b65, 0, none⟩), .pointer (some ⟨b86, 0, none⟩), .agg #[.int .i64 3, .int .i64 0, .int .i64 0, .int .i64 0]] .nil (by kernel_rfl) (fun b214 => ?_)
              refine OPS.want (by kernel_rfl) ?_
              have hp217 := hp200.pull3
              have hp218 := hp217.pull3
              have hp219 := hp218.pull3
              have hp220 := hp219.pull3
              refine OPS.cons (opStep.call (some 129) [.pointer (some ⟨b65, 0, none⟩), .pointer (some ⟨b86, 0, none⟩), .agg #[.int .i64 3, .int .i64 0, .int .i64 0, .int .i64 0]] (by kernel_rfl) (law_step _ _ ys205 rs209 a202 n203 c204 b65 a206 n207 c208 b86 (⟨3, (⟨0, 0⟩ : GTag), 0⟩ : Gsherdlaw08_Op) ⟨by decide, by decide⟩ _ hE210 (by omega) hp220) ?_)
              rintro _ w221 ⟨ys227, a224, n225, c226, rs231, a228, n229, c230, rfl, ⟨hE232, hl233⟩, hp222⟩
              have hz234 := own_flat (sz := 2) (fun _ => rfl) (by decide) hp222.get1
              have hz235 := own_flat (sz := 2) (fun _ => rfl) (by decide) hp222.get3
              have hE232l := hE232.len
              refine ⟨_, rfl, ?_⟩
              refine OPS.batch 2 { wraps := [130] } [] [4] [.bool true] .nil (by kernel_rfl) (fun b236 => ?_)
              refine OPS.nil ?_
              refine thn_n ?_
              refine WP.ret ?_
              refine bodyQ.of _ rfl [.bool true] ⟨rfl, trivial⟩ ?_
              exact ⟨rfl, hp222.fr⟩
      · exact absurd (hp70 i96 hi97) hn98
    · have hp79 := hp56.step hf78
      refine ⟨_, rfl, ?_⟩
      refine OPS.batch 5 {} [] [0, 1, 10, 11, 12] [.slice a1 n1 c1, .slice a2 n2 c2, .slice a57 n1 c58, .pointer none, .int .i64 41] .nil (by kernel_rfl) (fun b237 => ?_)
      refine OPS.nil ?_
      refine thn_n ?_
      refine WP.seq ?_
      refine WP.region _ rfl (by kernel_rfl) ?_
      refine OPS.batch 1 {} [] [0, 1, 10, 11, 12, 68] [.slice a1 n1 c1, .slice a2 n2 c2, .slice a57 n1 c58, .pointer none, .int .i64 41, .slice a1 n1 c1] .nil (by kernel_rfl) (fun b238 => ?_)
      refine OPS.cons (opStep.call (some 69) [.slice a1 n1 c1] (by kernel_rfl) (ref_New l a1 n1 c1 _ hn1 (by omega) ((hs1.at hp79))) ?_)
      rintro _ w241 (⟨b243, a244, n245, c246, ys247, rfl, hp248, hd249, hm250, hp242⟩ | ⟨rfl, ⟨i253, hi254, hn255⟩, hf256⟩)
      · exact absurd (hp248 i75 hi76) hn77
      · have hp257 := hp79.step hf256
        refine ⟨_, rfl, ?_⟩
        refine OPS.batch 5 {} [] [0, 1, 10, 11, 12, 13, 14] [.slice a1 n1 c1, .slice a2 n2 c2, .slice a57 n1 c58, .pointer none, .int .i64 41, .pointer none, .int .i64 41] .nil (by kernel_rfl) (fun b258 => ?_)
        refine OPS.nil ?_
        refine thn_n ?_
        refine WP.seq ?_
        refine WP.cut (fun e274 w275 => ∃ (x272 : Bool), (True) ∧ Bp x272 ((¬ (((True) ↔ (True))))) ∧ List.map e274 [1, 10, 11, 13, 87] = [.slice a2 n2 c2, .slice a57 n1 c58, .pointer none, .pointer none, .bool x272] ∧ Hp w Non [Res.own 29 2 (.slice a57 (n1 + 1) c58) (n1 + 1) (List.flatMap GTag.cells (l ++ [(⟨-77, 0⟩ : GTag)])), Res.row g44 [.int .i64 0, .int .i64 0] 29] w275) ?_ ?_
        · refine WP.region _ rfl (by kernel_rfl) ?_
          refine OPS.batch 11 { wraps := [81] } [] [0, 1, 10, 11, 13, 82] [.slice a1 n1 c1, .slice a2 n2 c2, .slice a57 n1 c58, .pointer none, .pointer none, .bool (!(true == true))] .nil (by kernel_rfl) (fun b260 => ?_)
          by_cases h261 : ((True) ↔ (True))
          · refine OPS.batch 0 {} [] [0, 1, 10, 11, 13, 82] [.slice a1 n1 c1, .slice a2 n2 c2, .slice a57 n1 c58, .pointer none, .pointer none, .bool (!(true == true))] .nil (by kernel_rfl) (fun b264 => ?_)
            refine OPS.re [.slice a1 n1 c1, .slice a2 n2 c2, .slice a57 n1 c58, .pointer none, .pointer none, .bool false] (by rw [show (!(true == true)) = false from (Bp.not (Bp.beq Bp.t Bp.t)).ff (fun k => k h261)]) ?_
            refine OPS.batch 2 {} [] [1, 10, 11, 13, 82, 83, 84] [.slice a2 n2 c2, .slice a57 n1 c58, .pointer none, .pointer none, .bool false, .slice a57 n1 c58, .slice a1 n1 c1] .nil (by kernel_rfl) (fun b265 => ?_)
            refine OPS.want (by kernel_rfl) ?_
            refine OPS.cons (opStep.call (some 85) [.slice a57 n1 c58, .slice a1 n1 c1] (by kernel_rfl) (t8_kept l _ _ n1 _ _ _ hn1 (by omega) (own_cap hp257.get0) (SlR.own hp257.get0) (hs1.at hp257)) ?_)
            rintro _ w268 ⟨rfl, hf269⟩
            refine ⟨_, rfl, ?_⟩
            have hp270 := hp257.step hf269
            refine OPS.batch 2 { wraps := [87] } [] [1, 10, 11, 13, 87] [.slice a2 n2 c2, .slice a57 n1 c58, .pointer none, .pointer none, .bool false] .nil (by kernel_rfl) (fun b271 => ?_)
            refine OPS.nil ?_
            refine thn_n ?_
            exact ⟨false, trivial, Bp.of Bp.f (by first | (simp only [h261, iff_false, false_iff, iff_true, true_iff, Classical.not_not, and_true, true_and, and_false, false_and, or_true, true_or, or_false, false_or, not_true_eq_false, not_false_eq_true, and_self, or_self, iff_self]; done) | (simp [h261]; done) | grind | (simp_all; done)), by kernel_rfl, hp270⟩
          · refine OPS.batch 0 {} [] [0, 1, 10, 11, 13, 82] [.slice a1 n1 c1, .slice a2 n2 c2, .slice a57 n1 c58, .pointer none, .pointer none, .bool (!(true == true))] .nil (by kernel_rfl) (fun b262 => ?_)
            refine OPS.re [.slice a1 n1 c1, .slice a2 n2 c2, .slice a57 n1 c58, .pointer none, .pointer none, .bool true] (by rw [show (!(true == true)) = true from (Bp.not (Bp.beq Bp.t Bp.t)).tt h261]) ?_
            refine OPS.batch 5 { wraps := [87] } [] [1, 10, 11, 13, 87] [.slice a2 n2 c2, .slice a57 n1 c58, .pointer none, .pointer none, .bool true] .nil (by kernel_rfl) (fun b263 => ?_)
            refine OPS.nil ?_
            refine thn_n ?_
            exact ⟨true, trivial, Bp.of Bp.t (by first | (simp only [h261, iff_false, false_iff, iff_true, true_iff, Classical.not_not, and_true, true_and, and_false, false_and, or_true, true_or, or_false, false_or, not_true_eq_false, not_false_eq_true, and_self, or_self, iff_self]; done) | (simp [h261]; done) | grind | (simp_all; done)), by kernel_rfl, hp257⟩
        rintro e274 w275 ⟨x272, hd277, hb273, hE278, hp276⟩
        obtain ⟨b279, rfl⟩ := toMk hE278
        clear hE278
        clear hd277
        refine WP.test (p := (¬ (((True) ↔ (True))))) rfl hb273 (fun h280 => ?_) (fun h280 => ?_)
        · refine WP.seq ?_
          refine WP.pure {} [] [4] [.bool false] .nil (by kernel_rfl) (fun b281 => ?_)
          refine thn_n ?_
          refine WP.ret ?_
          refine thn_r ?_
          refine bodyQ.of _ rfl [.bool false] ⟨rfl, trivial⟩ ?_
          exfalso
          have h_ := h280
          first | omega | (simp at h_; done) | (simp at h_; omega)
        · refine WP.skip ?_
          refine thn_n ?_
          refine WP.seq ?_
          refine WP.seq ?_
          refine WP.pure {} [] [1, 10, 11, 13, 89] [.slice a2 n2 c2, .slice a57 n1 c58, .pointer none, .pointer none, .bool true] .nil (by kernel_rfl) (fun b282 => ?_)
          refine thn_n ?_
          refine WP.condT rfl ?_
          refine WP.seq ?_
          refine WP.pure {} [] [4] [.bool true] .nil (by kernel_rfl) (fun b283 => ?_)
          refine thn_n ?_
          refine WP.ret ?_
          refine thn_r ?_
          refine bodyQ.of _ rfl [.bool true] ⟨rfl, trivial⟩ ?_
          exact ⟨rfl, hp276.fr⟩

end Go.Proofs.Ytoeholipggkcaaa.K
