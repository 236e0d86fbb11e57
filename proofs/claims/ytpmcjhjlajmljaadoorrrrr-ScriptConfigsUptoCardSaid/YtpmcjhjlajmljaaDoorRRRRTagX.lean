/- The walks of TagX: what each function computes. -/
import Derived.Test.YtpmcjhjlajmljaaDoorRRRRProg
import Derived.Test.YtpmcjhjlajmljaaDoorRRRRCoreO
import Derived.Test.YtpmcjhjlajmljaaDoorRRRRStc
import Derived.Test.YtpmcjhjlajmljaaDoorRRRRCoreQ
namespace Go.Proofs.YtpmcjhjlajmljaaDoorRRRR.K
open Go Go.Proofs Go.RowKit
set_option linter.unusedVariables false
set_option linter.unusedSimpArgs false
set_option maxRecDepth 20000
set_option maxHeartbeats 4000000

theorem tag_Text (t : GTag) (h0 : -9223372036854775808 ≤ t.Count) (h1 : t.Count ≤ 9223372036854775807) (h2 : -9223372036854775808 ≤ t.Client) (h3 : t.Client ≤ 9223372036854775807) (w : World) (hl : LibP w) :
    Calls Tryd.prog 8 #[GTag.val t] w (fun r_ w' => r_ = .returned (.string (textT t)) ∧ Fram Non w w') := by
  have z1 := itoaT_size h0 h1
  have z2 := itoaT_size h2 h3
  have z3 : (⟨#[46]⟩ : ByteArray).size = 1 := rfl
  have z4 : (itoaT t.Count ++ ⟨#[46]⟩).size = (itoaT t.Count).size + 1 := by rw [ByteArray.size_append]; rfl
  refine calls_of Tryd.func8 rfl 14 rfl (by simp) ?_
  have hp0 := Hp.init w
  have he0 : List.map (env0 [GTag.val t]) [0] = [GTag.val t] := by kernel_rfl
  obtain ⟨b0, he0⟩ := toMk he0
  rw [he0]
  clear he0
  refine WP.seq ?_
  refine WP.region _ rfl (by kernel_rfl) ?_
  refine OPS.cons (opStep.box hp0 [.int .i64 t.Count, .int .i64 t.Client] (by kernel_rfl) (fun g3 w1 hp2 => ?_))
  refine OPS.batch 1 {} [] [1] [.pointer (some ⟨g3, 0, none⟩)] .nil (by kernel_rfl) (fun b4 => ?_)
  refine OPS.nil ?_
  refine thn_n ?_
  refine WP.seq ?_
  refine WP.seq ?_
  refine WP.region _ rfl (by kernel_rfl) ?_
  refine OPS.batch 1 {} [GTag.val t] [1, 3] [.pointer (some ⟨g3, 0, none⟩), GTag.val t] (.cons (show Ld Tryd.prog w1 23 ⟨g3, 0, none⟩ (GTag.val t) from Ld.rowN (cs := [.int .i64 t.Count, .int .i64 t.Client]) hp2.get0 (by kernel_rfl)) .nil) (by kernel_rfl) (fun b5 => ?_)
  refine OPS.cons (opStep.call (some 4) [GTag.val t] (by kernel_rfl) (tag_Valid t _) ?_)
  rintro _ w8 ⟨b11, rfl, hb12, hf9⟩
  refine ⟨_, rfl, ?_⟩
  have hp10 := hp2.step hf9
  refine OPS.batch 1 {} [] [1, 5] [.pointer (some ⟨g3, 0, none⟩), .bool (!b11)] .nil (by kernel_rfl) (fun b13 => ?_)
  refine OPS.nil ?_
  refine thn_n ?_
  refine WP.test (p := ¬ (tagValid t)) rfl (Bp.not hb12) (fun h14 => ?_) (fun h14 => ?_)
  · refine WP.seq ?_
    refine WP.pure {} [] [2] [.string ⟨#[]⟩] .nil (by kernel_rfl) (fun b15 => ?_)
    refine thn_n ?_
    refine WP.ret ?_
    refine thn_r ?_
    refine bodyQ.of _ rfl [.string ⟨#[]⟩] ⟨rfl, trivial⟩ ?_
    exact ⟨by simp only [pack]; rw [text_no h14], hp10.fr⟩
  · replace h14 := Classical.not_not.1 h14
    refine WP.skip ?_
    refine thn_n ?_
    refine WP.seq ?_
    have hp18 := hp10.drew
    refine WP.quiet (fun w16 => Hp w Non [Res.row g3 [.int .i64 t.Count, .int .i64 t.Client] 23] w16) (by kernel_rfl) hp18 ?_
    have hnehp18 : ∃ wz_, (fun w16 => Hp w Non [Res.row g3 [.int .i64 t.Count, .int .i64 t.Client] 23] w16) wz_ := ⟨_, hp18⟩
    refine QOPS.batch 2 {} [.int .i64 t.Count] [1, 7] [.pointer (some ⟨g3, 0, none⟩), .int .i64 t.Count] hnehp18 (fun w19 hp20 => QB.mk (.cons (Ld.row1 (P := Tryd.prog) (t := 2) (o := 0) (v := .int .i64 t.Count) hp20.get0 (by kernel_rfl)) .nil) (by kernel_rfl)) (fun b21 => ?_)
    refine QOPS.call (some 8) [.int .i64 t.Count, .int .i64 10] (by kernel_rfl) (fun w22 hp23 => (fmt_c t.Count (by omega) (by omega) _ (hl.fram hp23.fr)).mono fun _ _ h => ⟨h.1, hp23.step h.2⟩) ?_
    refine QOPS.batch 3 {} [.int .i64 t.Client] [9, 11] [.string ((itoaT t.Count) ++ ⟨#[46]⟩), .int .i64 t.Client] hnehp18 (fun w24 hp25 => QB.mk (.cons (show (itoaT t.Count).size + (⟨#[46]⟩ : ByteArray).size ≤ 9223372036854775807 from by omega) (.cons (Ld.row1 (P := Tryd.prog) (t := 3) (o := 1) (v := .int .i64 t.Client) hp25.get0 (by kernel_rfl)) .nil)) (by kernel_rfl)) (fun b26 => ?_)
    refine QOPS.call (some 12) [.int .i64 t.Client] (by kernel_rfl) (fun w27 hp28 => (itoa_c t.Client (by omega) (by omega) _ (hl.fram hp28.fr)).mono fun _ _ h => ⟨h.1, hp28.step h.2⟩) ?_
    refine QOPS.batch 2 {} [] [2] [.string (((itoaT t.Count) ++ ⟨#[46]⟩) ++ (itoaT t.Client))] hnehp18 (fun w29 hp30 => QB.mk (.cons (show ((itoaT t.Count) ++ ⟨#[46]⟩).size + (itoaT t.Client).size ≤ 9223372036854775807 from by omega) .nil) (by kernel_rfl)) (fun b31 => ?_)
    refine QOPS.nil (fun w32 hp33 => ?_)
    refine thn_n ?_
    refine WP.ret ?_
    refine bodyQ.of _ rfl [.string (((itoaT t.Count) ++ ⟨#[46]⟩) ++ (itoaT t.Client))] ⟨rfl, trivial⟩ ?_
    exact ⟨by simp only [pack]; unfold textT; rw [if_pos h14], hp33.fr⟩

theorem tag_Parse (s : ByteArray) (hs : s.size ≤ 4294967280) (w : World) (hl : LibP w) :
    Calls Tryd.prog 10 #[.string s] w (fun r_ w' => r_ = .returned (.tuple #[GTag.val (parseT s).1, .int .i64 (parseT s).2]) ∧ Fram Non w w') := by
  refine calls_of Tryd.func10 rfl 45 rfl (by simp) ?_
  have hp0 := Hp.init w
  have he0 : List.map (env0 [.string s]) [0] = [.string s] := by kernel_rfl
  obtain ⟨b0, he0⟩ := toMk he0
  rw [he0]
  clear he0
  refine WP.seq ?_
  refine WP.region _ rfl (by kernel_rfl) ?_
  refine OPS.cons (opStep.alloc hp0 [.int .i64 0, .int .i64 0] (by kernel_rfl) (fun g3 w1 hp2 => ?_))
  refine OPS.batch 1 {} [] [0, 2] [.string s, .pointer (some ⟨g3, 0, none⟩)] .nil (by kernel_rfl) (fun b4 => ?_)
  refine OPS.nil ?_
  refine thn_n ?_
  refine WP.seq ?_
  refine WP.region _ rfl (by kernel_rfl) ?_
  refine OPS.batch 1 {} [] [0, 2, 13] [.string s, .pointer (some ⟨g3, 0, none⟩), .string s] .nil (by kernel_rfl) (fun b5 => ?_)
  refine OPS.cons (opStep.call (some 14) [.string s, .string ⟨#[46]⟩] (by kernel_rfl) (cut_c s ⟨#[46]⟩ (by omega) _ (hl.fram hp2.fr)) ?_)
  rintro _ w8 ⟨ca11, cb12, cf13, rfl, hcut14, hf9⟩
  refine ⟨_, rfl, ?_⟩
  have hp10 := hp2.step hf9
  refine OPS.batch 7 {} [] [0, 2, 4, 5] [.string s, .pointer (some ⟨g3, 0, none⟩), .string ca11, .string cb12] .nil (by kernel_rfl) (fun b15 => ?_)
  refine OPS.nil ?_
  refine thn_n ?_
  refine WP.seq ?_
  refine WP.region _ rfl (by kernel_rfl) ?_
  refine OPS.batch 1 {} [] [0, 2, 5, 19] [.string s, .pointer (some ⟨g3, 0, none⟩), .string cb12, .string ca11] .nil (by kernel_rfl) (fun b16 => ?_)
  refine OPS.cons (opStep.call (some 20) [.string ca11, .int .i64 10, .int .i64 64] (by kernel_rfl) (pint_c ca11 (by omega) _ (hl.fram hp10.fr)) ?_)
  rintro _ w19 ⟨v22, _, rfl, (⟨rfl, hv23, hv23a, hv23b⟩ | ⟨⟨te24, ge25, rfl⟩, hv23⟩), hf20⟩
  · refine ⟨_, rfl, ?_⟩
    have hp21 := hp10.step hf20
    refine OPS.batch 5 {} [] [0, 2, 5, 7, 8] [.string s, .pointer (some ⟨g3, 0, none⟩), .string cb12, .int .i64 v22, .nilIface] .nil (by kernel_rfl) (fun b26 => ?_)
    refine OPS.nil ?_
    refine thn_n ?_
    refine WP.seq ?_
    refine WP.region _ rfl (by kernel_rfl) ?_
    refine OPS.batch 1 {} [] [0, 2, 7, 8, 24] [.string s, .pointer (some ⟨g3, 0, none⟩), .int .i64 v22, .nilIface, .string cb12] .nil (by kernel_rfl) (fun b27 => ?_)
    refine OPS.cons (opStep.call (some 25) [.string cb12] (by kernel_rfl) (atoi_c cb12 (by omega) _ (hl.fram hp21.fr)) ?_)
    rintro _ w30 ⟨v33, _, rfl, (⟨rfl, hv34, hv34a, hv34b⟩ | ⟨⟨te35, ge36, rfl⟩, hv34⟩), hf31⟩
    · refine ⟨_, rfl, ?_⟩
      have hp32 := hp21.step hf31
      refine OPS.batch 5 {} [] [0, 2, 7, 8, 9, 10] [.string s, .pointer (some ⟨g3, 0, none⟩), .int .i64 v22, .nilIface, .int .i64 v33, .nilIface] .nil (by kernel_rfl) (fun b37 => ?_)
      refine OPS.nil ?_
      refine thn_n ?_
      refine WP.seq ?_
      refine WP.region _ rfl (by kernel_rfl) ?_
      refine OPS.batch 3 {} [] [0, 2, 8, 10, 30] [.string s, .pointer (some ⟨g3, 0, none⟩), .nilIface, .nilIface, .agg #[.int .i64 v22, .int .i64 v33]] .nil (by kernel_rfl) (fun b38 => ?_)
      refine OPS.cons (opStep.alloc hp32 [.int .i64 0, .int .i64 0] (by kernel_rfl) (fun g41 w39 hp40 => ?_))
      refine OPS.cons (opStep.store0 hp40 rfl [.int .i64 v22, .int .i64 v33] [.int .i64 v22, .int .i64 v33] (by kernel_rfl) (fun w42 hp43 => ?_))
      refine OPS.nil ?_
      refine thn_n ?_
      refine WP.seq ?_
      refine WP.seq ?_
      refine WP.region _ rfl (by kernel_rfl) ?_
      refine OPS.batch 8 { wraps := [36] } [.agg #[.int .i64 v22, .int .i64 v33]] [0, 2, 11, 37, 38] [.string s, .pointer (some ⟨g3, 0, none⟩), .pointer (some ⟨g41, 0, none⟩), .bool false, .agg #[.int .i64 v22, .int .i64 v33]] (.cons (show Ld Tryd.prog w42 23 ⟨g41, 0, none⟩ (.agg #[.int .i64 v22, .int .i64 v33]) from Ld.rowN (cs := [.int .i64 v22, .int .i64 v33]) hp43.get0 (by kernel_rfl)) .nil) (by kernel_rfl) (fun b44 => ?_)
      refine OPS.want (by kernel_rfl) ?_
      refine OPS.cons (opStep.call (some 39) [.agg #[.int .i64 v22, .int .i64 v33]] (by kernel_rfl) (tag_Text (⟨v22, v33⟩ : GTag) (by first | omega | decide | (show _ ≤ _; omega)) (by first | omega | decide | (show _ ≤ _; omega)) (by first | omega | decide | (show _ ≤ _; omega)) (by first | omega | decide | (show _ ≤ _; omega)) _ (hl.fram hp43.fr)) ?_)
      rintro _ w47 ⟨rfl, hf48⟩
      refine ⟨_, rfl, ?_⟩
      have hp49 := hp43.step hf48
      refine OPS.batch 3 { wraps := [42] } [] [2, 11, 42] [.pointer (some ⟨g3, 0, none⟩), .pointer (some ⟨g41, 0, none⟩), .bool (decide (¬ ((textT (⟨v22, v33⟩ : GTag)) = s)))] .nil (by kernel_rfl) (fun b50 => ?_)
      refine OPS.nil ?_
      refine thn_n ?_
      refine WP.test (p := ¬ ((textT (⟨v22, v33⟩ : GTag)) = s)) rfl Bp.dec (fun h51 => ?_) (fun h51 => ?_)
      · refine WP.seq ?_
        refine WP.region _ rfl (by kernel_rfl) ?_
        refine OPS.batch 1 {} [] [2, 43] [.pointer (some ⟨g3, 0, none⟩), .agg #[.int .i64 0, .int .i64 0]] .nil (by kernel_rfl) (fun b52 => ?_)
        refine OPS.cons (opStep.store1 hp49 rfl [.int .i64 0, .int .i64 0] [.int .i64 0, .int .i64 0] (by kernel_rfl) (fun w53 hp54 => ?_))
        refine OPS.batch 1 {} [] [2, 3] [.pointer (some ⟨g3, 0, none⟩), .int .i64 31] .nil (by kernel_rfl) (fun b55 => ?_)
        refine OPS.nil ?_
        refine thn_n ?_
        refine WP.ret ?_
        refine thn_r ?_
        refine bodyQ.of _ rfl [.agg #[.int .i64 0, .int .i64 0], .int .i64 31] ⟨⟨_, rfl, (show Ld Tryd.prog w53 23 ⟨g3, 0, none⟩ (.agg #[.int .i64 0, .int .i64 0]) from Ld.rowN (cs := [.int .i64 0, .int .i64 0]) hp54.get1 (by kernel_rfl))⟩, rfl, trivial⟩ ?_
        obtain ⟨hcA, hcB, _, _⟩ := hcut14
        rw [hcA] at hv23
        rw [hcB] at hv34
        have hpar := (parse_both hv23 hv34).2 h51
        exact ⟨by simp only [pack]; rw [hpar]; rfl, hp54.fr⟩
      · replace h51 := Classical.not_not.1 h51
        refine WP.skip ?_
        refine thn_n ?_
        refine WP.seq ?_
        refine WP.region _ rfl (by kernel_rfl) ?_
        refine OPS.batch 1 {} [.agg #[.int .i64 v22, .int .i64 v33]] [2, 44] [.pointer (some ⟨g3, 0, none⟩), .agg #[.int .i64 v22, .int .i64 v33]] (.cons (show Ld Tryd.prog w47 23 ⟨g41, 0, none⟩ (.agg #[.int .i64 v22, .int .i64 v33]) from Ld.rowN (cs := [.int .i64 v22, .int .i64 v33]) hp49.get0 (by kernel_rfl)) .nil) (by kernel_rfl) (fun b56 => ?_)
        refine OPS.cons (opStep.store1 hp49 rfl [.int .i64 v22, .int .i64 v33] [.int .i64 v22, .int .i64 v33] (by kernel_rfl) (fun w57 hp58 => ?_))
        refine OPS.batch 1 {} [] [2, 3] [.pointer (some ⟨g3, 0, none⟩), .int .i64 0] .nil (by kernel_rfl) (fun b59 => ?_)
        refine OPS.nil ?_
        refine thn_n ?_
        refine WP.ret ?_
        refine bodyQ.of _ rfl [.agg #[.int .i64 v22, .int .i64 v33], .int .i64 0] ⟨⟨_, rfl, (show Ld Tryd.prog w57 23 ⟨g3, 0, none⟩ (.agg #[.int .i64 v22, .int .i64 v33]) from Ld.rowN (cs := [.int .i64 v22, .int .i64 v33]) hp58.get1 (by kernel_rfl))⟩, rfl, trivial⟩ ?_
        obtain ⟨hcA, hcB, _, _⟩ := hcut14
        rw [hcA] at hv23
        rw [hcB] at hv34
        have hpar := (parse_both hv23 hv34).1 h51
        exact ⟨by simp only [pack]; rw [hpar]; rfl, hp58.fr⟩
    · refine ⟨_, rfl, ?_⟩
      have hp32 := hp21.step hf31
      refine OPS.batch 5 {} [] [0, 2, 7, 8, 9, 10] [.string s, .pointer (some ⟨g3, 0, none⟩), .int .i64 v22, .nilIface, .int .i64 v33, .iface te35 (.pointer (some ⟨ge36, 0, none⟩))] .nil (by kernel_rfl) (fun b60 => ?_)
      refine OPS.nil ?_
      refine thn_n ?_
      refine WP.seq ?_
      refine WP.region _ rfl (by kernel_rfl) ?_
      refine OPS.batch 3 {} [] [0, 2, 8, 10, 30] [.string s, .pointer (some ⟨g3, 0, none⟩), .nilIface, .iface te35 (.pointer (some ⟨ge36, 0, none⟩)), .agg #[.int .i64 v22, .int .i64 v33]] .nil (by kernel_rfl) (fun b61 => ?_)
      refine OPS.cons (opStep.alloc hp32 [.int .i64 0, .int .i64 0] (by kernel_rfl) (fun g64 w62 hp63 => ?_))
      refine OPS.cons (opStep.store0 hp63 rfl [.int .i64 v22, .int .i64 v33] [.int .i64 v22, .int .i64 v33] (by kernel_rfl) (fun w65 hp66 => ?_))
      refine OPS.nil ?_
      refine thn_n ?_
      refine WP.seq ?_
      refine WP.seq ?_
      refine WP.pure { wraps := [36, 42] } [] [2, 11, 42] [.pointer (some ⟨g3, 0, none⟩), .pointer (some ⟨g64, 0, none⟩), .bool true] .nil (by kernel_rfl) (fun b67 => ?_)
      refine thn_n ?_
      refine WP.condT rfl ?_
      refine WP.seq ?_
      refine WP.region _ rfl (by kernel_rfl) ?_
      refine OPS.batch 1 {} [] [2, 43] [.pointer (some ⟨g3, 0, none⟩), .agg #[.int .i64 0, .int .i64 0]] .nil (by kernel_rfl) (fun b68 => ?_)
      refine OPS.cons (opStep.store1 hp66 rfl [.int .i64 0, .int .i64 0] [.int .i64 0, .int .i64 0] (by kernel_rfl) (fun w69 hp70 => ?_))
      refine OPS.batch 1 {} [] [2, 3] [.pointer (some ⟨g3, 0, none⟩), .int .i64 31] .nil (by kernel_rfl) (fun b71 => ?_)
      refine OPS.nil ?_
      refine thn_n ?_
      refine WP.ret ?_
      refine thn_r ?_
      refine bodyQ.of _ rfl [.agg #[.int .i64 0, .int .i64 0], .int .i64 31] ⟨⟨_, rfl, (show Ld Tryd.prog w69 23 ⟨g3, 0, none⟩ (.agg #[.int .i64 0, .int .i64 0]) from Ld.rowN (cs := [.int .i64 0, .int .i64 0]) hp70.get1 (by kernel_rfl))⟩, rfl, trivial⟩ ?_
      obtain ⟨hcA, hcB, _, _⟩ := hcut14
      rw [hcA] at hv23
      rw [hcB] at hv34
      have hpar := parse_err2 hv34
      exact ⟨by simp only [pack]; rw [hpar]; rfl, hp70.fr⟩
  · refine ⟨_, rfl, ?_⟩
    have hp21 := hp10.step hf20
    refine OPS.batch 5 {} [] [0, 2, 5, 7, 8] [.string s, .pointer (some ⟨g3, 0, none⟩), .string cb12, .int .i64 v22, .iface te24 (.pointer (some ⟨ge25, 0, none⟩))] .nil (by kernel_rfl) (fun b72 => ?_)
    refine OPS.nil ?_
    refine thn_n ?_
    refine WP.seq ?_
    refine WP.region _ rfl (by kernel_rfl) ?_
    refine OPS.batch 1 {} [] [0, 2, 7, 8, 24] [.string s, .pointer (some ⟨g3, 0, none⟩), .int .i64 v22, .iface te24 (.pointer (some ⟨ge25, 0, none⟩)), .string cb12] .nil (by kernel_rfl) (fun b73 => ?_)
    refine OPS.cons (opStep.call (some 25) [.string cb12] (by kernel_rfl) (atoi_c cb12 (by omega) _ (hl.fram hp21.fr)) ?_)
    rintro _ w76 ⟨v79, _, rfl, (⟨rfl, hv80, hv80a, hv80b⟩ | ⟨⟨te81, ge82, rfl⟩, hv80⟩), hf77⟩
    · refine ⟨_, rfl, ?_⟩
      have hp78 := hp21.step hf77
      refine OPS.batch 5 {} [] [0, 2, 7, 8, 9, 10] [.string s, .pointer (some ⟨g3, 0, none⟩), .int .i64 v22, .iface te24 (.pointer (some ⟨ge25, 0, none⟩)), .int .i64 v79, .nilIface] .nil (by kernel_rfl) (fun b83 => ?_)
      refine OPS.nil ?_
      refine thn_n ?_
      refine WP.seq ?_
      refine WP.region _ rfl (by kernel_rfl) ?_
      refine OPS.batch 3 {} [] [0, 2, 8, 10, 30] [.string s, .pointer (some ⟨g3, 0, none⟩), .iface te24 (.pointer (some ⟨ge25, 0, none⟩)), .nilIface, .agg #[.int .i64 v22, .int .i64 v79]] .nil (by kernel_rfl) (fun b84 => ?_)
      refine OPS.cons (opStep.alloc hp78 [.int .i64 0, .int .i64 0] (by kernel_rfl) (fun g87 w85 hp86 => ?_))
      refine OPS.cons (opStep.store0 hp86 rfl [.int .i64 v22, .int .i64 v79] [.int .i64 v22, .int .i64 v79] (by kernel_rfl) (fun w88 hp89 => ?_))
      refine OPS.nil ?_
      refine thn_n ?_
      refine WP.seq ?_
      refine WP.seq ?_
      refine WP.pure { wraps := [36, 42] } [] [2, 11, 42] [.pointer (some ⟨g3, 0, none⟩), .pointer (some ⟨g87, 0, none⟩), .bool true] .nil (by kernel_rfl) (fun b90 => ?_)
      refine thn_n ?_
      refine WP.condT rfl ?_
      refine WP.seq ?_
      refine WP.region _ rfl (by kernel_rfl) ?_
      refine OPS.batch 1 {} [] [2, 43] [.pointer (some ⟨g3, 0, none⟩), .agg #[.int .i64 0, .int .i64 0]] .nil (by kernel_rfl) (fun b91 => ?_)
      refine OPS.cons (opStep.store1 hp89 rfl [.int .i64 0, .int .i64 0] [.int .i64 0, .int .i64 0] (by kernel_rfl) (fun w92 hp93 => ?_))
      refine OPS.batch 1 {} [] [2, 3] [.pointer (some ⟨g3, 0, none⟩), .int .i64 31] .nil (by kernel_rfl) (fun b94 => ?_)
      refine OPS.nil ?_
      refine thn_n ?_
      refine WP.ret ?_
      refine thn_r ?_
      refine bodyQ.of _ rfl [.agg #[.int .i64 0, .int .i64 0], .int .i64 31] ⟨⟨_, rfl, (show Ld Tryd.prog w92 23 ⟨g3, 0, none⟩ (.agg #[.int .i64 0, .int .i64 0]) from Ld.rowN (cs := [.int .i64 0, .int .i64 0]) hp93.get1 (by kernel_rfl))⟩, rfl, trivial⟩ ?_
      obtain ⟨hcA, hcB, _, _⟩ := hcut14
      rw [hcA] at hv23
      rw [hcB] at hv80
      have hpar := parse_err1 hv23
      exact ⟨by simp only [pack]; rw [hpar]; rfl, hp93.fr⟩
    · refine ⟨_, rfl, ?_⟩
      have hp78 := hp21.step hf77
      refine OPS.batch 5 {} [] [0, 2, 7, 8, 9, 10] [.string s, .pointer (some ⟨g3, 0, none⟩), .int .i64 v22, .iface te24 (.pointer (some ⟨ge25, 0, none⟩)), .int .i64 v79, .iface te81 (.pointer (some ⟨ge82, 0, none⟩))] .nil (by kernel_rfl) (fun b95 => ?_)
      refine OPS.nil ?_
      refine thn_n ?_
      refine WP.seq ?_
      refine WP.region _ rfl (by kernel_rfl) ?_
      refine OPS.batch 3 {} [] [0, 2, 8, 10, 30] [.string s, .pointer (some ⟨g3, 0, none⟩), .iface te24 (.pointer (some ⟨ge25, 0, none⟩)), .iface te81 (.pointer (some ⟨ge82, 0, none⟩)), .agg #[.int .i64 v22, .int .i64 v79]] .nil (by kernel_rfl) (fun b96 => ?_)
      refine OPS.cons (opStep.alloc hp78 [.int .i64 0, .int .i64 0] (by kernel_rfl) (fun g99 w97 hp98 => ?_))
      refine OPS.cons (opStep.store0 hp98 rfl [.int .i64 v22, .int .i64 v79] [.int .i64 v22, .int .i64 v79] (by kernel_rfl) (fun w100 hp101 => ?_))
      refine OPS.nil ?_
      refine thn_n ?_
      refine WP.seq ?_
      refine WP.seq ?_
      refine WP.pure { wraps := [36, 42] } [] [2, 11, 42] [.pointer (some ⟨g3, 0, none⟩), .pointer (some ⟨g99, 0, none⟩), .bool true] .nil (by kernel_rfl) (fun b102 => ?_)
      refine thn_n ?_
      refine WP.condT rfl ?_
      refine WP.seq ?_
      refine WP.region _ rfl (by kernel_rfl) ?_
      refine OPS.batch 1 {} [] [2, 43] [.pointer (some ⟨g3, 0, none⟩), .agg #[.int .i64 0, .int .i64 0]] .nil (by kernel_rfl) (fun b103 => ?_)
      refine OPS.cons (opStep.store1 hp101 rfl [.int .i64 0, .int .i64 0] [.int .i64 0, .int .i64 0] (by kernel_rfl) (fun w104 hp105 => ?_))
      refine OPS.batch 1 {} [] [2, 3] [.pointer (some ⟨g3, 0, none⟩), .int .i64 31] .nil (by kernel_rfl) (fun b106 => ?_)
      refine OPS.nil ?_
      refine thn_n ?_
      refine WP.ret ?_
      refine thn_r ?_
      refine bodyQ.of _ rfl [.agg #[.int .i64 0, .int .i64 0], .int .i64 31] ⟨⟨_, rfl, (show Ld Tryd.prog w104 23 ⟨g3, 0, none⟩ (.agg #[.int .i64 0, .int .i64 0]) from Ld.rowN (cs := [.int .i64 0, .int .i64 0]) hp105.get1 (by kernel_rfl))⟩, rfl, trivial⟩ ?_
      obtain ⟨hcA, hcB, _, _⟩ := hcut14
      rw [hcA] at hv23
      rw [hcB] at hv80
      have hpar := parse_err1 hv23
      exact ⟨by simp only [pack]; rw [hpar]; rfl, hp105.fr⟩

end Go.Proofs.YtpmcjhjlajmljaaDoorRRRR.K
