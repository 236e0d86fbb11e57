/- Texts of this claim, merged: what the program's functions compute, and the rules that the walks use. -/
import Derived.Test.YtdkgdidnknojlaaProg
import Derived.Test.YtdkgdidnknojlaaZ1
import Derived.Test.YtdkgdidnknojlaaZ4
namespace Go.Proofs.Ytdkgdidnknojlaa.K
open Go Go.Proofs Go.RowKit
set_option linter.unusedVariables false
set_option linter.unusedSimpArgs false
set_option maxRecDepth 20000
set_option maxHeartbeats 4000000

theorem cl_S (d : ByteArray) (ad : Addr) (n c : Nat) (w : World) (hn : n = d.size) (hb : d.size ≤ 140737488355327) (hx : SlR w (some ad) n ((bytesI d).flatMap u8c)) :
    Calls Try.prog 42 #[.slice (some ad) n c] w (fun r_ w' => ∃ ao co, r_ = .returned (.slice ao n co) ∧ Hp w Non [Res.own 5 1 (.slice ao n co) n ((bytesI d).flatMap u8c)] w') := by
  refine calls_of Try.func42 rfl 8 rfl (by simp) ?_
  have hp0 := Hp.init w
  have he0 : List.map (env0 [.slice (some ad) n c]) [0] = [.slice (some ad) n c] := by kernel_rfl
  obtain ⟨b0, he0⟩ := toMk he0
  rw [he0]
  clear he0
  refine WP.seq ?_
  refine WP.pure {} [] [0] [.slice (some ad) n c] .nil (by kernel_rfl) (fun b1 => ?_)
  refine thn_n ?_
  refine WP.seq ?_
  refine WP.seq ?_
  refine WP.pure {} [] [0, 4] [.slice (some ad) n c, .bool false] .nil (by kernel_rfl) (fun b2 => ?_)
  refine thn_n ?_
  refine WP.condF rfl ?_
  refine WP.skip ?_
  refine thn_n ?_
  refine WP.seq ?_
  refine WP.region _ rfl (by kernel_rfl) ?_
  refine OPS.cons (opStep.buildSlice0 (E := 5) hp0 (by kernel_rfl) (fun g5 w3 hp4 => ?_))
  refine OPS.batch 1 {} [] [5, 6] [.slice (some ⟨g5, 0, none⟩) 0 0, .slice (some ad) n c] .nil (by kernel_rfl) (fun b6 => ?_)
  have hp9 := hp4.pull0
  have hp10 := (show Hp w Non [Res.own 5 1 (.slice (some ⟨g5, 0, none⟩) 0 0) 0 (List.flatMap u8c [])] w3 from hp9.rowOwn 1)
  refine OPS.cons (opStep.appendS (A := []) hp10 1 (by kernel_rfl) rfl rfl (hx.at hp10) (flat_n (fun _ => rfl) (by rw [bytesI_len, hn])) (one_flat (fun _ => rfl)) (by decide) (by omega) (by omega) (fun a11 c12 w13 hp14 => ?_))
  rw [show List.flatMap u8c [] ++ List.flatMap u8c (bytesI d) = List.flatMap u8c ((bytesI d)) from rfl] at hp14
  simp only [List.cons_append, List.nil_append] at hp14
  refine OPS.batch 1 {} [] [2] [.slice a11 (0 + n) c12] .nil (by kernel_rfl) (fun b15 => ?_)
  refine OPS.nil ?_
  refine thn_n ?_
  refine WP.ret ?_
  refine bodyQ.of _ rfl [.slice a11 (0 + n) c12] ⟨rfl, trivial⟩ ?_
  have e_ : 0 + n = n := Nat.zero_add _
  have h_ := hp14
  rw [e_] at h_
  refine ⟨_, _, ?_, h_⟩
  rw [e_]; rfl

theorem cl_N (c : Nat) (w : World) :
    Calls Try.prog 42 #[.slice none 0 c] w (fun r_ w' => r_ = .returned (.slice none 0 0) ∧ Fram Non w w') := by
  refine calls_of Try.func42 rfl 8 rfl (by simp) ?_
  have hp0 := Hp.init w
  have he0 : List.map (env0 [.slice none 0 c]) [0] = [.slice none 0 c] := by kernel_rfl
  obtain ⟨b0, he0⟩ := toMk he0
  rw [he0]
  clear he0
  refine WP.seq ?_
  refine WP.pure {} [] [0] [.slice none 0 c] .nil (by kernel_rfl) (fun b1 => ?_)
  refine thn_n ?_
  refine WP.seq ?_
  refine WP.seq ?_
  refine WP.pure {} [] [0, 4] [.slice none 0 c, .bool true] .nil (by kernel_rfl) (fun b2 => ?_)
  refine thn_n ?_
  refine WP.condT rfl ?_
  refine WP.seq ?_
  refine WP.pure {} [] [2] [.slice none 0 0] .nil (by kernel_rfl) (fun b3 => ?_)
  refine thn_n ?_
  refine WP.ret ?_
  refine thn_r ?_
  refine bodyQ.of _ rfl [.slice none 0 0] ⟨rfl, trivial⟩ ?_
  exact ⟨rfl, hp0.fr⟩

theorem own_S (d : ByteArray) (a : Option Addr) (n c : Nat) (w : World) (hn : n = d.size) (hb : d.size ≤ 140737488355327) (hx : SlR w a n ((bytesI d).flatMap u8c)) :
    Calls Try.prog 5 #[.slice a n c] w (fun r_ w' => ∃ ao co, r_ = .returned (.slice ao n co) ∧ Hp w Non [Res.own 5 1 (.slice ao n co) n ((bytesI d).flatMap u8c)] w') := by
  refine calls_of Try.func5 rfl 5 rfl (by simp) ?_
  have hp0 := Hp.init w
  have he0 : List.map (env0 [.slice a n c]) [0] = [.slice a n c] := by kernel_rfl
  obtain ⟨b0, he0⟩ := toMk he0
  rw [he0]
  clear he0
  refine WP.seq ?_
  refine WP.pure {} [] [0] [.slice a n c] .nil (by kernel_rfl) (fun b1 => ?_)
  refine thn_n ?_
  refine WP.seq ?_
  refine WP.region _ rfl (by kernel_rfl) ?_
  refine OPS.batch 1 {} [] [3] [.slice a n c] .nil (by kernel_rfl) (fun b2 => ?_)
  have hp6 := (show Hp w Non [Res.own 5 1 (.slice none 0 0) 0 (List.flatMap u8c ([] : List Int))] w from hp0.nilOwn 5 1)
  refine OPS.cons (opStep.appendS (A := []) hp6 1 (by kernel_rfl) rfl rfl (hx.at hp6) (flat_n (fun _ => rfl) (by rw [bytesI_len, hn])) (one_flat (fun _ => rfl)) (by decide) (by omega) (by omega) (fun a7 c8 w9 hp10 => ?_))
  rw [show List.flatMap u8c ([] : List Int) ++ List.flatMap u8c (bytesI d) = List.flatMap u8c ((bytesI d)) from rfl] at hp10
  simp only [List.cons_append, List.nil_append] at hp10
  refine OPS.batch 1 {} [] [2] [.slice a7 (0 + n) c8] .nil (by kernel_rfl) (fun b11 => ?_)
  refine OPS.nil ?_
  refine thn_n ?_
  refine WP.ret ?_
  refine bodyQ.of _ rfl [.slice a7 (0 + n) c8] ⟨rfl, trivial⟩ ?_
  have e_ : 0 + n = n := Nat.zero_add _
  have h_ := hp10
  rw [e_] at h_
  refine ⟨_, _, ?_, h_⟩
  rw [e_]; rfl

theorem own_c (h : SlH) (d : ByteArray) (w : World) (hb : Bt w h d) (hs : d.size ≤ 140737488355327) : Calls Try.prog 5 #[.slice h.a h.n h.c] w (fun r_ w' => ∃ (h2 : SlH) (F1 : Nat → Prop), r_ = .returned (.slice h2.a h2.n h2.c) ∧ Hp w Non [Res.dat F1 [(h2, d)]] w') := by
  refine (own_S d h.a h.n h.c w hb.1 hs hb.2).mono ?_
  rintro _ w' ⟨ao, co, rfl, hp⟩
  exact ⟨⟨ao, h.n, co⟩, _, rfl, hp.ownDat⟩
theorem cl_c (h : SlH) (d : ByteArray) (w : World) (hb : Bt w h d) (hs : d.size ≤ 140737488355327) : Calls Try.prog 42 #[.slice h.a h.n h.c] w (fun r_ w' => ∃ (h2 : SlH) (F1 : Nat → Prop), r_ = .returned (.slice h2.a h2.n h2.c) ∧ Hp w Non [Res.dat F1 [(h2, d)]] w') := by
  obtain ⟨a, n, c⟩ := h
  obtain ⟨h1, h2⟩ := hb
  cases a with
  | some ad =>
    refine (cl_S d ad n c w h1 hs h2).mono ?_
    rintro _ w' ⟨ao, co, rfl, hp⟩
    exact ⟨⟨ao, n, co⟩, _, rfl, hp.ownDat⟩
  | none =>
    have hn0 : n = 0 := by
      rcases Nat.eq_zero_or_pos n with z | z
      · exact z
      · have h3 := h2.some z
        cases h3
    subst hn0
    refine (cl_N c w).mono ?_
    rintro _ w' ⟨rfl, hf⟩
    exact ⟨⟨none, 0, 0⟩, _, rfl, ((Hp.init w).step hf).noDat rfl h1.symm⟩
theorem pre_old (w0 w : World) (L : List Res) (tb m dl : Nat) (T : Tb) (F : Nat → Prop) (D : List (SlH × ByteArray)) (key : ByteArray) (g : GTag) (hd : SlH) (d : ByteArray) (hbt : ∀ w1, Hp w0 Non L w1 → Bt w1 hd d) (hsz : d.size ≤ 140737488355327) (hdl : dl ≤ 4611686018427387903) (hp0' : Hp w0 Non (Res.row tb [.int .i64 (dl : Int), .map (some m)] 54 :: Res.mp m kS vO T :: Res.all (T.map shRes) :: Res.dat F D :: L) w) (s : Sf) (hk : mapV T key = some (some s)) (hl : s.l.length ≤ 1048599) :
    Calls Try.prog 23 #[.pointer (some ⟨tb, 0, none⟩), .string key, GTag.val g, .slice hd.a hd.n hd.c] w (fun r_ w' => ∃ f T2 F2 D2, r_ = .returned (.bool f) ∧ PreR T D key g d dl f T2 D2 ∧ Hp w0 Non (Res.row tb [.int .i64 (dl : Int), .map (some m)] 54 :: Res.mp m kS vO T2 :: Res.all (T2.map shRes) :: Res.dat F2 D2 :: L) w') := by
  have hp0 := (show Hp w0 Non (Res.mp s.b kT vE s.l :: Res.all ((mapDel T key).map shRes) :: Res.row tb [.int .i64 ((dl : Nat) : Int), .map (some m)] 54 :: Res.mp m kS vO T :: Res.dat F D :: L) w from ((hp0'.pull2).shPop hk))
  refine calls_of Try.func23 rfl 50 rfl (by simp) ?_
  have he0 : List.map (env0 [.pointer (some ⟨tb, 0, none⟩), .string key, GTag.val g, .slice hd.a hd.n hd.c]) [0, 1, 2, 3] = [.pointer (some ⟨tb, 0, none⟩), .string key, GTag.val g, .slice hd.a hd.n hd.c] := by kernel_rfl
  obtain ⟨b0, he0⟩ := toMk he0
  rw [he0]
  clear he0
  refine WP.seq ?_
  refine WP.region _ rfl (by kernel_rfl) ?_
  refine OPS.cons (opStep.box hp0 [.int .i64 g.Count, .int .i64 g.Client] (by kernel_rfl) (fun g3 w1 hp2 => ?_))
  refine OPS.batch 1 {} [] [0, 1, 3, 6] [.pointer (some ⟨tb, 0, none⟩), .string key, .slice hd.a hd.n hd.c, .pointer (some ⟨g3, 0, none⟩)] .nil (by kernel_rfl) (fun b4 => ?_)
  refine OPS.nil ?_
  refine thn_n ?_
  refine WP.seq ?_
  refine WP.pure {} [.map (some m), .map (some s.b)] [0, 1, 3, 6, 9] [.pointer (some ⟨tb, 0, none⟩), .string key, .slice hd.a hd.n hd.c, .pointer (some ⟨g3, 0, none⟩), .map (some s.b)] (.cons (Ld.row1 (P := Try.prog) (t := 52) (o := 1) (v := .map (some m)) hp2.get3 (by kernel_rfl)) (.cons (by have h_ := Lk.noD (vf := vO) keyKey (by exact Try.underlying52) hp2.get4 key none (by kernel_rfl); rw [hk] at h_; exact h_) .nil)) (by kernel_rfl) (fun b5 => ?_)
  refine thn_n ?_
  refine WP.seq ?_
  refine WP.region _ rfl (by kernel_rfl) ?_
  refine OPS.batch 3 {} [GTag.val g, GEntry.val (((mapV s.l g).getD en0).e)] [0, 1, 3, 6, 9, 19] [.pointer (some ⟨tb, 0, none⟩), .string key, .slice hd.a hd.n hd.c, .pointer (some ⟨g3, 0, none⟩), .map (some s.b), GEntry.val (((mapV s.l g).getD en0).e)] (.cons (show Ld Try.prog w1 31 ⟨g3, 0, none⟩ (GTag.val g) from Ld.rowN (cs := [.int .i64 g.Count, .int .i64 g.Client]) hp2.get0 (by kernel_rfl)) (.cons (Lk.moW (vf := vE) keyTag (by exact Try.underlying56) (MO.of hp2.get1) g en0 (by kernel_rfl)) .nil)) (by kernel_rfl) (fun b6 => ?_)
  refine OPS.cons (opStep.alloc hp2 [.int .i64 0, .int .i64 0, .bool false, .bool false, .slice none 0 0] (by kernel_rfl) (fun g9 w7 hp8 => ?_))
  refine OPS.cons (opStep.store0 hp8 rfl [.int .i64 (((mapV s.l g).getD en0).e.Tag.Count), .int .i64 (((mapV s.l g).getD en0).e.Tag.Client), .bool (((mapV s.l g).getD en0).e.Fin), .bool (((mapV s.l g).getD en0).e.Has), .slice (((mapV s.l g).getD en0).e.Data.a) (((mapV s.l g).getD en0).e.Data.n) (((mapV s.l g).getD en0).e.Data.c)] [.int .i64 (((mapV s.l g).getD en0).e.Tag.Count), .int .i64 (((mapV s.l g).getD en0).e.Tag.Client), .bool (((mapV s.l g).getD en0).e.Fin), .bool (((mapV s.l g).getD en0).e.Has), .slice (((mapV s.l g).getD en0).e.Data.a) (((mapV s.l g).getD en0).e.Data.n) (((mapV s.l g).getD en0).e.Data.c)] (by kernel_rfl) (fun w10 hp11 => ?_))
  refine OPS.nil ?_
  refine thn_n ?_
  refine WP.seq ?_
  refine WP.cut (fun e43 w44 => ∃ (x41 : Bool), (True) ∧ Bp x41 ((((((mapV s.l g).getD en0).e.Has) = true)) ∨ ((¬ ((((mapV s.l g).getD en0).e.Has) = true)) ∧ ((tagCmp g (floT s.l dl)) < 0))) ∧ List.map e43 [0, 1, 3, 6, 9, 10, 32] = [.pointer (some ⟨tb, 0, none⟩), .string key, .slice hd.a hd.n hd.c, .pointer (some ⟨g3, 0, none⟩), .map (some s.b), .pointer (some ⟨g9, 0, none⟩), .bool x41] ∧ Hp w0 Non (Res.row g9 [.int .i64 (((mapV s.l g).getD en0).e.Tag.Count), .int .i64 (((mapV s.l g).getD en0).e.Tag.Client), .bool (((mapV s.l g).getD en0).e.Fin), .bool (((mapV s.l g).getD en0).e.Has), .slice (((mapV s.l g).getD en0).e.Data.a) (((mapV s.l g).getD en0).e.Data.n) (((mapV s.l g).getD en0).e.Data.c)] 34 :: Res.row g3 [.int .i64 g.Count, .int .i64 g.Client] 31 :: Res.mp s.b kT vE s.l :: Res.all ((mapDel T key).map shRes) :: Res.row tb [.int .i64 ((dl : Nat) : Int), .map (some m)] 54 :: Res.mp m kS vO T :: Res.dat F D :: L) w44) ?_ ?_
  · have hp15 := hp11.drew
    refine WP.quiet (fun w13 => Hp w0 Non (Res.row g9 [.int .i64 (((mapV s.l g).getD en0).e.Tag.Count), .int .i64 (((mapV s.l g).getD en0).e.Tag.Client), .bool (((mapV s.l g).getD en0).e.Fin), .bool (((mapV s.l g).getD en0).e.Has), .slice (((mapV s.l g).getD en0).e.Data.a) (((mapV s.l g).getD en0).e.Data.n) (((mapV s.l g).getD en0).e.Data.c)] 34 :: Res.row g3 [.int .i64 g.Count, .int .i64 g.Client] 31 :: Res.mp s.b kT vE s.l :: Res.all ((mapDel T key).map shRes) :: Res.row tb [.int .i64 ((dl : Nat) : Int), .map (some m)] 54 :: Res.mp m kS vO T :: Res.dat F D :: L) w13) (by kernel_rfl) hp15 ?_
    have hnehp15 : ∃ wz_, (fun w13 => Hp w0 Non (Res.row g9 [.int .i64 (((mapV s.l g).getD en0).e.Tag.Count), .int .i64 (((mapV s.l g).getD en0).e.Tag.Client), .bool (((mapV s.l g).getD en0).e.Fin), .bool (((mapV s.l g).getD en0).e.Has), .slice (((mapV s.l g).getD en0).e.Data.a) (((mapV s.l g).getD en0).e.Data.n) (((mapV s.l g).getD en0).e.Data.c)] 34 :: Res.row g3 [.int .i64 g.Count, .int .i64 g.Client] 31 :: Res.mp s.b kT vE s.l :: Res.all ((mapDel T key).map shRes) :: Res.row tb [.int .i64 ((dl : Nat) : Int), .map (some m)] 54 :: Res.mp m kS vO T :: Res.dat F D :: L) w13) wz_ := ⟨_, hp15⟩
    refine QOPS.batch 3 {} [.bool (((mapV s.l g).getD en0).e.Has)] [0, 1, 3, 6, 9, 10, 22] [.pointer (some ⟨tb, 0, none⟩), .string key, .slice hd.a hd.n hd.c, .pointer (some ⟨g3, 0, none⟩), .map (some s.b), .pointer (some ⟨g9, 0, none⟩), .bool (((mapV s.l g).getD en0).e.Has)] hnehp15 (fun w16 hp17 => QB.mk (.cons (Ld.row1 (P := Try.prog) (t := 4) (o := 3) (v := .bool (((mapV s.l g).getD en0).e.Has)) hp17.get0 (by kernel_rfl)) .nil) (by kernel_rfl)) (fun b18 => ?_)
    by_cases h19 : (((mapV s.l g).getD en0).e.Has) = true
    · refine QOPS.batch 0 {} [] [0, 1, 3, 6, 9, 10, 22] [.pointer (some ⟨tb, 0, none⟩), .string key, .slice hd.a hd.n hd.c, .pointer (some ⟨g3, 0, none⟩), .map (some s.b), .pointer (some ⟨g9, 0, none⟩), .bool (((mapV s.l g).getD en0).e.Has)] hnehp15 (fun _ _ => QB.mk .nil (by kernel_rfl)) (fun b20 => ?_)
      refine QOPS.re [.pointer (some ⟨tb, 0, none⟩), .string key, .slice hd.a hd.n hd.c, .pointer (some ⟨g3, 0, none⟩), .map (some s.b), .pointer (some ⟨g9, 0, none⟩), .bool true] (by rw [show (((mapV s.l g).getD en0).e.Has) = true from Bp.var.tt h19]) ?_
      refine QOPS.batch 10 { wraps := [32] } [] [0, 1, 3, 6, 9, 10, 32] [.pointer (some ⟨tb, 0, none⟩), .string key, .slice hd.a hd.n hd.c, .pointer (some ⟨g3, 0, none⟩), .map (some s.b), .pointer (some ⟨g9, 0, none⟩), .bool true] hnehp15 (fun w21 hp22 => QB.mk .nil (by kernel_rfl)) (fun b23 => ?_)
      refine QOPS.nil (fun w24 hp25 => ?_)
      refine thn_n ?_
      exact ⟨true, trivial, Bp.of Bp.t (by first | (simp only [h19, iff_false, false_iff, iff_true, true_iff, Classical.not_not, and_true, true_and, and_false, false_and, or_true, true_or, or_false, false_or, not_true_eq_false, not_false_eq_true, and_self, or_self, iff_self]; done) | (simp [h19]; done) | grind | (simp_all; done)), by kernel_rfl, hp25⟩
    · refine QOPS.batch 0 {} [] [0, 1, 3, 6, 9, 10, 22] [.pointer (some ⟨tb, 0, none⟩), .string key, .slice hd.a hd.n hd.c, .pointer (some ⟨g3, 0, none⟩), .map (some s.b), .pointer (some ⟨g9, 0, none⟩), .bool (((mapV s.l g).getD en0).e.Has)] hnehp15 (fun _ _ => QB.mk .nil (by kernel_rfl)) (fun b26 => ?_)
      refine QOPS.re [.pointer (some ⟨tb, 0, none⟩), .string key, .slice hd.a hd.n hd.c, .pointer (some ⟨g3, 0, none⟩), .map (some s.b), .pointer (some ⟨g9, 0, none⟩), .bool false] (by rw [show (((mapV s.l g).getD en0).e.Has) = false from Bp.var.ff h19]) ?_
      refine QOPS.batch 6 {} [GTag.val g, .int .i64 ((dl : Nat) : Int)] [0, 1, 3, 6, 9, 10, 22, 23, 24, 28] [.pointer (some ⟨tb, 0, none⟩), .string key, .slice hd.a hd.n hd.c, .pointer (some ⟨g3, 0, none⟩), .map (some s.b), .pointer (some ⟨g9, 0, none⟩), .bool false, GTag.val g, .map (some s.b), .int .i64 ((dl : Nat) : Int)] hnehp15 (fun w27 hp28 => QB.mk (.cons (show Ld Try.prog w27 31 ⟨g3, 0, none⟩ (GTag.val g) from Ld.rowN (cs := [.int .i64 g.Count, .int .i64 g.Client]) hp28.get1 (by kernel_rfl)) (.cons (Ld.row1 (P := Try.prog) (t := 3) (o := 0) (v := .int .i64 ((dl : Nat) : Int)) hp28.get4 (by kernel_rfl)) .nil)) (by kernel_rfl)) (fun b29 => ?_)
      refine QOPS.call (some 29) [.map (some s.b), .int .i64 ((dl : Nat) : Int)] (by kernel_rfl) (fun w30 hp31 => (fl_c (some s.b) s.l dl _ (MO.of hp31.get2) (by first | omega | (simp; done)) (by omega)).mono fun _ _ h => ⟨h.1, hp31.step h.2⟩) ?_
      refine QOPS.call (some 30) [GTag.val g, GTag.val (floT s.l dl)] (by kernel_rfl) (fun w34 hp35 => (tag_Compare g (floT s.l dl) _).mono fun _ _ h => ⟨h.1, hp35.step h.2⟩) ?_
      refine QOPS.batch 2 { wraps := [32] } [] [0, 1, 3, 6, 9, 10, 32] [.pointer (some ⟨tb, 0, none⟩), .string key, .slice hd.a hd.n hd.c, .pointer (some ⟨g3, 0, none⟩), .map (some s.b), .pointer (some ⟨g9, 0, none⟩), .bool (decide ((tagCmp g (floT s.l dl)) < 0))] hnehp15 (fun w36 hp37 => QB.mk .nil (by kernel_rfl)) (fun b38 => ?_)
      refine QOPS.nil (fun w39 hp40 => ?_)
      refine thn_n ?_
      exact ⟨decide ((tagCmp g (floT s.l dl)) < 0), trivial, Bp.of Bp.dec (by first | (simp only [h19, iff_false, false_iff, iff_true, true_iff, Classical.not_not, and_true, true_and, and_false, false_and, or_true, true_or, or_false, false_or, not_true_eq_false, not_false_eq_true, and_self, or_self, iff_self]; done) | (simp [h19]; done) | grind | (simp_all; done)), by kernel_rfl, hp40⟩
  rintro e43 w44 ⟨x41, hd46, hb42, hE47, hp45⟩
  obtain ⟨b48, rfl⟩ := toMk hE47
  clear hE47
  clear hd46
  refine WP.test (p := (((((mapV s.l g).getD en0).e.Has) = true)) ∨ ((¬ ((((mapV s.l g).getD en0).e.Has) = true)) ∧ ((tagCmp g (floT s.l dl)) < 0))) rfl hb42 (fun h49 => ?_) (fun h49 => ?_)
  · refine WP.seq ?_
    refine WP.pure {} [] [8] [.bool false] .nil (by kernel_rfl) (fun b50 => ?_)
    refine thn_n ?_
    refine WP.ret ?_
    refine thn_r ?_
    refine bodyQ.of _ rfl [.bool false] ⟨rfl, trivial⟩ ?_
    have hen : enK T key g = (mapV s.l g).getD en0 := by unfold enK; rw [shK_some hk]; rfl
    have hsh : shO (shK T key) = s.l := by rw [shK_some hk]; rfl
    have hc : ¬ chgP T key g dl := by unfold chgP; rw [hen, hsh]; intro q; first | exact q h49 | exact q (.inl h49) | exact q (.inr ((cmp_lt _ _).1 h49)) | (simp_all [cmp_lt]; done)
    have hp51 := hp45.pull3
    have hp52 := hp51.pull3
    have hp53 := hp52.shBack hk
    have hp54 := hp53.pull5
    have hp55 := hp54.pull1
    have hp56 := hp55.pull5
    have hp57 := hp56.pull5
    exact ⟨false, T, _, _, rfl, .inl ⟨hc, rfl, rfl, rfl⟩, (hp57.sub (.cons_cons _ (.cons_cons _ (.cons_cons _ (.cons_cons _ (.cons _ (.cons _ (.refl _))))))))⟩
  · refine WP.skip ?_
    refine thn_n ?_
    refine WP.seq ?_
    refine WP.seq ?_
    refine WP.pure {} [] [0, 1, 3, 6, 9, 10, 34] [.pointer (some ⟨tb, 0, none⟩), .string key, .slice hd.a hd.n hd.c, .pointer (some ⟨g3, 0, none⟩), .map (some s.b), .pointer (some ⟨g9, 0, none⟩), .bool false] .nil (by kernel_rfl) (fun b58 => ?_)
    refine thn_n ?_
    refine WP.condF rfl ?_
    refine WP.skip ?_
    refine thn_n ?_
    refine WP.seq ?_
    have hp59 := hp45.drew
    refine WP.held (fun w60 => Ld Try.prog w60 31 ⟨g3, 0, none⟩ (GTag.val g) ∧ Ld Try.prog w60 4 ⟨g9, 2, none⟩ (.bool (((mapV s.l g).getD en0).e.Fin)) ∧ True) [8] [(0, true), (1, true), (2, true), (3, true), (4, true), (5, true), (6, false), (7, true), (8, false)] (np_thn np_body) (by kernel_rfl) ?_
    refine HOPS.take 6 {} [GTag.val g, GTag.val g, .bool (((mapV s.l g).getD en0).e.Fin)] [42, 43, 44, 46, 47] [.map (some s.b), GTag.val g, GTag.val g, .bool (((mapV s.l g).getD en0).e.Fin), .slice hd.a hd.n hd.c] (by kernel_rfl) ⟨(show Ld Try.prog w44.drew 31 ⟨g3, 0, none⟩ (GTag.val g) from Ld.rowN (cs := [.int .i64 g.Count, .int .i64 g.Client]) hp59.get1 (by kernel_rfl)), (show Ld Try.prog w44.drew 4 ⟨g9, 2, none⟩ (.bool (((mapV s.l g).getD en0).e.Fin)) from (Ld.row1 (P := Try.prog) (t := 4) (o := 2) (v := .bool (((mapV s.l g).getD en0).e.Fin)) hp59.get0 (by kernel_rfl))), trivial⟩ (fun w61 hS62 => QB.mk (.cons (hS62.1) (.cons (hS62.1) (.cons (hS62.2.1) .nil))) (by kernel_rfl)) (fun b63 => ?_)
    refine HOPS.eff _ rfl (opStep.call (some 48) [.slice hd.a hd.n hd.c] (by kernel_rfl) (cl_c hd d _ (hbt _ (hp59.sub (.cons _ (.cons _ (.cons _ (.cons _ (.cons _ (.cons _ (.cons _ (.refl _)))))))))) hsz) ?_)
    rintro _ w66 ⟨h68, F69, rfl, hp67⟩
    refine ⟨_, rfl, ?_⟩
    have hp70 := hp59.madeQ hp67
    simp only [List.cons_append, List.nil_append] at hp70
    refine ⟨.inr ⟨(show Ld Try.prog w66 31 ⟨g3, 0, none⟩ (GTag.val g) from Ld.rowN (cs := [.int .i64 g.Count, .int .i64 g.Client]) hp70.get2 (by kernel_rfl)), (show Ld Try.prog w66 4 ⟨g9, 2, none⟩ (.bool (((mapV s.l g).getD en0).e.Fin)) from (Ld.row1 (P := Try.prog) (t := 4) (o := 2) (v := .bool (((mapV s.l g).getD en0).e.Fin)) hp70.get1 (by kernel_rfl))), trivial⟩, ?_⟩
    refine HOPS.take 1 {} [] [42, 43, 49] [.map (some s.b), GTag.val g, .agg #[.int .i64 g.Count, .int .i64 g.Client, .bool (((mapV s.l g).getD en0).e.Fin), .bool true, .slice h68.a h68.n h68.c]] (by kernel_rfl) ⟨(show Ld Try.prog w66 31 ⟨g3, 0, none⟩ (GTag.val g) from Ld.rowN (cs := [.int .i64 g.Count, .int .i64 g.Client]) hp70.get2 (by kernel_rfl)), (show Ld Try.prog w66 4 ⟨g9, 2, none⟩ (.bool (((mapV s.l g).getD en0).e.Fin)) from (Ld.row1 (P := Try.prog) (t := 4) (o := 2) (v := .bool (((mapV s.l g).getD en0).e.Fin)) hp70.get1 (by kernel_rfl))), trivial⟩ (fun w71 hS72 => QB.mk .nil (by kernel_rfl)) (fun b73 => ?_)
    refine HOPS.eff _ rfl (opStep.mapUpdate3 keyTag (by exact Try.underlying56) hp70 g (⟨(⟨g, ((mapV s.l g).getD en0).e.Fin, true, h68⟩ : GEntry), d⟩ : En) (by kernel_rfl) (fun w74 hp75 => ?_))
    refine ⟨.inl rfl, ?_⟩
    refine HOPS.nil ?_
    refine thn_n ?_
    refine WP.seq ?_
    refine WP.pure {} [] [8] [.bool true] .nil (by kernel_rfl) (fun b76 => ?_)
    refine thn_n ?_
    refine WP.ret ?_
    refine bodyQ.of _ rfl [.bool true] ⟨rfl, trivial⟩ ?_
    have hen : enK T key g = (mapV s.l g).getD en0 := by unfold enK; rw [shK_some hk]; rfl
    have hsh : shO (shK T key) = s.l := by rw [shK_some hk]; rfl
    have hc : chgP T key g dl := by unfold chgP; rw [hen, hsh]; intro q; have q0_ := h49; (simp_all [cmp_lt]; done)
    have hp77 := hp75.pull7
    have hp78 := hp77.pull1
    have hp79 := hp78.datJoin
    have hp80 := hp79.pull6
    have hp81 := hp80.tbOld (l := mapPut s.l g (⟨(⟨g, ((mapV s.l g).getD en0).e.Fin, true, h68⟩ : GEntry), d⟩ : En)) hk
    have hp82 := hp81.pull5
    have hp83 := hp82.pull5
    have hp84 := Hp.shPut (key := key) hp83
    have hp85 := hp84.pull2
    have hp86 := hp85.pull1
    have hp87 := hp86.pull2
    have hp88 := hp87.pull5
    exact ⟨true, _, _, _, rfl, .inr ⟨hc, rfl, s.b, h68, [(h68, d)], by rw [hen, hsh], rfl, Dk.last⟩, (hp88.sub (.cons_cons _ (.cons_cons _ (.cons_cons _ (.cons_cons _ (.cons _ (.cons _ (.refl _))))))))⟩

theorem pre_new (w0 w : World) (L : List Res) (tb m dl : Nat) (T : Tb) (F : Nat → Prop) (D : List (SlH × ByteArray)) (key : ByteArray) (g : GTag) (hd : SlH) (d : ByteArray) (hbt : ∀ w1, Hp w0 Non L w1 → Bt w1 hd d) (hsz : d.size ≤ 140737488355327) (hdl : dl ≤ 4611686018427387903) (hp0' : Hp w0 Non (Res.row tb [.int .i64 (dl : Int), .map (some m)] 54 :: Res.mp m kS vO T :: Res.all (T.map shRes) :: Res.dat F D :: L) w) (hk : mapV T key = none) :
    Calls Try.prog 23 #[.pointer (some ⟨tb, 0, none⟩), .string key, GTag.val g, .slice hd.a hd.n hd.c] w (fun r_ w' => ∃ f T2 F2 D2, r_ = .returned (.bool f) ∧ PreR T D key g d dl f T2 D2 ∧ Hp w0 Non (Res.row tb [.int .i64 (dl : Int), .map (some m)] 54 :: Res.mp m kS vO T2 :: Res.all (T2.map shRes) :: Res.dat F2 D2 :: L) w') := by
  have hp0 := (show Hp w0 Non (Res.all ((mapDel T key).map shRes) :: Res.row tb [.int .i64 ((dl : Nat) : Int), .map (some m)] 54 :: Res.mp m kS vO T :: Res.dat F D :: L) w from ((hp0'.pull2).shNone hk))
  refine calls_of Try.func23 rfl 50 rfl (by simp) ?_
  have he0 : List.map (env0 [.pointer (some ⟨tb, 0, none⟩), .string key, GTag.val g, .slice hd.a hd.n hd.c]) [0, 1, 2, 3] = [.pointer (some ⟨tb, 0, none⟩), .string key, GTag.val g, .slice hd.a hd.n hd.c] := by kernel_rfl
  obtain ⟨b0, he0⟩ := toMk he0
  rw [he0]
  clear he0
  refine WP.seq ?_
  refine WP.region _ rfl (by kernel_rfl) ?_
  refine OPS.cons (opStep.box hp0 [.int .i64 g.Count, .int .i64 g.Client] (by kernel_rfl) (fun g3 w1 hp2 => ?_))
  refine OPS.batch 1 {} [] [0, 1, 3, 6] [.pointer (some ⟨tb, 0, none⟩), .string key, .slice hd.a hd.n hd.c, .pointer (some ⟨g3, 0, none⟩)] .nil (by kernel_rfl) (fun b4 => ?_)
  refine OPS.nil ?_
  refine thn_n ?_
  refine WP.seq ?_
  refine WP.pure {} [.map (some m), .map none] [0, 1, 3, 6, 9] [.pointer (some ⟨tb, 0, none⟩), .string key, .slice hd.a hd.n hd.c, .pointer (some ⟨g3, 0, none⟩), .map none] (.cons (Ld.row1 (P := Try.prog) (t := 52) (o := 1) (v := .map (some m)) hp2.get2 (by kernel_rfl)) (.cons (by have h_ := Lk.noD (vf := vO) keyKey (by exact Try.underlying52) hp2.get3 key none (by kernel_rfl); rw [hk] at h_; exact h_) .nil)) (by kernel_rfl) (fun b5 => ?_)
  refine thn_n ?_
  refine WP.seq ?_
  refine WP.region _ rfl (by kernel_rfl) ?_
  refine OPS.batch 3 {} [GTag.val g, GEntry.val (((mapV ([] : List (GTag × En)) g).getD en0).e)] [0, 1, 3, 6, 9, 19] [.pointer (some ⟨tb, 0, none⟩), .string key, .slice hd.a hd.n hd.c, .pointer (some ⟨g3, 0, none⟩), .map none, GEntry.val (((mapV ([] : List (GTag × En)) g).getD en0).e)] (.cons (show Ld Try.prog w1 31 ⟨g3, 0, none⟩ (GTag.val g) from Ld.rowN (cs := [.int .i64 g.Count, .int .i64 g.Client]) hp2.get0 (by kernel_rfl)) (.cons (Lk.moW (vf := vE) keyTag (by exact Try.underlying56) (MO.nil (w := w1)) g en0 (by kernel_rfl)) .nil)) (by kernel_rfl) (fun b6 => ?_)
  refine OPS.cons (opStep.alloc hp2 [.int .i64 0, .int .i64 0, .bool false, .bool false, .slice none 0 0] (by kernel_rfl) (fun g9 w7 hp8 => ?_))
  refine OPS.cons (opStep.store0 hp8 rfl [.int .i64 (((mapV ([] : List (GTag × En)) g).getD en0).e.Tag.Count), .int .i64 (((mapV ([] : List (GTag × En)) g).getD en0).e.Tag.Client), .bool (((mapV ([] : List (GTag × En)) g).getD en0).e.Fin), .bool (((mapV ([] : List (GTag × En)) g).getD en0).e.Has), .slice (((mapV ([] : List (GTag × En)) g).getD en0).e.Data.a) (((mapV ([] : List (GTag × En)) g).getD en0).e.Data.n) (((mapV ([] : List (GTag × En)) g).getD en0).e.Data.c)] [.int .i64 (((mapV ([] : List (GTag × En)) g).getD en0).e.Tag.Count), .int .i64 (((mapV ([] : List (GTag × En)) g).getD en0).e.Tag.Client), .bool (((mapV ([] : List (GTag × En)) g).getD en0).e.Fin), .bool (((mapV ([] : List (GTag × En)) g).getD en0).e.Has), .slice (((mapV ([] : List (GTag × En)) g).getD en0).e.Data.a) (((mapV ([] : List (GTag × En)) g).getD en0).e.Data.n) (((mapV ([] : List (GTag × En)) g).getD en0).e.Data.c)] (by kernel_rfl) (fun w10 hp11 => ?_))
  refine OPS.nil ?_
  refine thn_n ?_
  refine WP.seq ?_
  refine WP.cut (fun e43 w44 => ∃ (x41 : Bool), (True) ∧ Bp x41 ((((((mapV ([] : List (GTag × En)) g).getD en0).e.Has) = true)) ∨ ((¬ ((((mapV ([] : List (GTag × En)) g).getD en0).e.Has) = true)) ∧ ((tagCmp g (floT ([] : List (GTag × En)) dl)) < 0))) ∧ List.map e43 [0, 1, 3, 6, 9, 10, 32] = [.pointer (some ⟨tb, 0, none⟩), .string key, .slice hd.a hd.n hd.c, .pointer (some ⟨g3, 0, none⟩), .map none, .pointer (some ⟨g9, 0, none⟩), .bool x41] ∧ Hp w0 Non (Res.row g9 [.int .i64 (((mapV ([] : List (GTag × En)) g).getD en0).e.Tag.Count), .int .i64 (((mapV ([] : List (GTag × En)) g).getD en0).e.Tag.Client), .bool (((mapV ([] : List (GTag × En)) g).getD en0).e.Fin), .bool (((mapV ([] : List (GTag × En)) g).getD en0).e.Has), .slice (((mapV ([] : List (GTag × En)) g).getD en0).e.Data.a) (((mapV ([] : List (GTag × En)) g).getD en0).e.Data.n) (((mapV ([] : List (GTag × En)) g).getD en0).e.Data.c)] 34 :: Res.row g3 [.int .i64 g.Count, .int .i64 g.Client] 31 :: Res.all ((mapDel T key).map shRes) :: Res.row tb [.int .i64 ((dl : Nat) : Int), .map (some m)] 54 :: Res.mp m kS vO T :: Res.dat F D :: L) w44) ?_ ?_
  · have hp15 := hp11.drew
    refine WP.quiet (fun w13 => Hp w0 Non (Res.row g9 [.int .i64 (((mapV ([] : List (GTag × En)) g).getD en0).e.Tag.Count), .int .i64 (((mapV ([] : List (GTag × En)) g).getD en0).e.Tag.Client), .bool (((mapV ([] : List (GTag × En)) g).getD en0).e.Fin), .bool (((mapV ([] : List (GTag × En)) g).getD en0).e.Has), .slice (((mapV ([] : List (GTag × En)) g).getD en0).e.Data.a) (((mapV ([] : List (GTag × En)) g).getD en0).e.Data.n) (((mapV ([] : List (GTag × En)) g).getD en0).e.Data.c)] 34 :: Res.row g3 [.int .i64 g.Count, .int .i64 g.Client] 31 :: Res.all ((mapDel T key).map shRes) :: Res.row tb [.int .i64 ((dl : Nat) : Int), .map (some m)] 54 :: Res.mp m kS vO T :: Res.dat F D :: L) w13) (by kernel_rfl) hp15 ?_
    have hnehp15 : ∃ wz_, (fun w13 => Hp w0 Non (Res.row g9 [.int .i64 (((mapV ([] : List (GTag × En)) g).getD en0).e.Tag.Count), .int .i64 (((mapV ([] : List (GTag × En)) g).getD en0).e.Tag.Client), .bool (((mapV ([] : List (GTag × En)) g).getD en0).e.Fin), .bool (((mapV ([] : List (GTag × En)) g).getD en0).e.Has), .slice (((mapV ([] : List (GTag × En)) g).getD en0).e.Data.a) (((mapV ([] : List (GTag × En)) g).getD en0).e.Data.n) (((mapV ([] : List (GTag × En)) g).getD en0).e.Data.c)] 34 :: Res.row g3 [.int .i64 g.Count, .int .i64 g.Client] 31 :: Res.all ((mapDel T key).map shRes) :: Res.row tb [.int .i64 ((dl : Nat) : Int), .map (some m)] 54 :: Res.mp m kS vO T :: Res.dat F D :: L) w13) wz_ := ⟨_, hp15⟩
    refine QOPS.batch 3 {} [.bool (((mapV ([] : List (GTag × En)) g).getD en0).e.Has)] [0, 1, 3, 6, 9, 10, 22] [.pointer (some ⟨tb, 0, none⟩), .string key, .slice hd.a hd.n hd.c, .pointer (some ⟨g3, 0, none⟩), .map none, .pointer (some ⟨g9, 0, none⟩), .bool (((mapV ([] : List (GTag × En)) g).getD en0).e.Has)] hnehp15 (fun w16 hp17 => QB.mk (.cons (Ld.row1 (P := Try.prog) (t := 4) (o := 3) (v := .bool (((mapV ([] : List (GTag × En)) g).getD en0).e.Has)) hp17.get0 (by kernel_rfl)) .nil) (by kernel_rfl)) (fun b18 => ?_)
    by_cases h19 : (((mapV ([] : List (GTag × En)) g).getD en0).e.Has) = true
    · refine QOPS.batch 0 {} [] [0, 1, 3, 6, 9, 10, 22] [.pointer (some ⟨tb, 0, none⟩), .string key, .slice hd.a hd.n hd.c, .pointer (some ⟨g3, 0, none⟩), .map none, .pointer (some ⟨g9, 0, none⟩), .bool (((mapV ([] : List (GTag × En)) g).getD en0).e.Has)] hnehp15 (fun _ _ => QB.mk .nil (by kernel_rfl)) (fun b20 => ?_)
      refine QOPS.re [.pointer (some ⟨tb, 0, none⟩), .string key, .slice hd.a hd.n hd.c, .pointer (some ⟨g3, 0, none⟩), .map none, .pointer (some ⟨g9, 0, none⟩), .bool true] (by rw [show (((mapV ([] : List (GTag × En)) g).getD en0).e.Has) = true from Bp.var.tt h19]) ?_
      refine QOPS.batch 10 { wraps := [32] } [] [0, 1, 3, 6, 9, 10, 32] [.pointer (some ⟨tb, 0, none⟩), .string key, .slice hd.a hd.n hd.c, .pointer (some ⟨g3, 0, none⟩), .map none, .pointer (some ⟨g9, 0, none⟩), .bool true] hnehp15 (fun w21 hp22 => QB.mk .nil (by kernel_rfl)) (fun b23 => ?_)
      refine QOPS.nil (fun w24 hp25 => ?_)
      refine thn_n ?_
      exact ⟨true, trivial, Bp.of Bp.t (by first | (simp only [h19, iff_false, false_iff, iff_true, true_iff, Classical.not_not, and_true, true_and, and_false, false_and, or_true, true_or, or_false, false_or, not_true_eq_false, not_false_eq_true, and_self, or_self, iff_self]; done) | (simp [h19]; done) | grind | (simp_all; done)), by kernel_rfl, hp25⟩
    · refine QOPS.batch 0 {} [] [0, 1, 3, 6, 9, 10, 22] [.pointer (some ⟨tb, 0, none⟩), .string key, .slice hd.a hd.n hd.c, .pointer (some ⟨g3, 0, none⟩), .map none, .pointer (some ⟨g9, 0, none⟩), .bool (((mapV ([] : List (GTag × En)) g).getD en0).e.Has)] hnehp15 (fun _ _ => QB.mk .nil (by kernel_rfl)) (fun b26 => ?_)
      refine QOPS.re [.pointer (some ⟨tb, 0, none⟩), .string key, .slice hd.a hd.n hd.c, .pointer (some ⟨g3, 0, none⟩), .map none, .pointer (some ⟨g9, 0, none⟩), .bool false] (by rw [show (((mapV ([] : List (GTag × En)) g).getD en0).e.Has) = false from Bp.var.ff h19]) ?_
      refine QOPS.batch 6 {} [GTag.val g, .int .i64 ((dl : Nat) : Int)] [0, 1, 3, 6, 9, 10, 22, 23, 24, 28] [.pointer (some ⟨tb, 0, none⟩), .string key, .slice hd.a hd.n hd.c, .pointer (some ⟨g3, 0, none⟩), .map none, .pointer (some ⟨g9, 0, none⟩), .bool false, GTag.val g, .map none, .int .i64 ((dl : Nat) : Int)] hnehp15 (fun w27 hp28 => QB.mk (.cons (show Ld Try.prog w27 31 ⟨g3, 0, none⟩ (GTag.val g) from Ld.rowN (cs := [.int .i64 g.Count, .int .i64 g.Client]) hp28.get1 (by kernel_rfl)) (.cons (Ld.row1 (P := Try.prog) (t := 3) (o := 0) (v := .int .i64 ((dl : Nat) : Int)) hp28.get3 (by kernel_rfl)) .nil)) (by kernel_rfl)) (fun b29 => ?_)
      refine QOPS.call (some 29) [.map none, .int .i64 ((dl : Nat) : Int)] (by kernel_rfl) (fun w30 hp31 => (fl_c none ([] : List (GTag × En)) dl _ MO.nil (by first | omega | (simp; done)) (by omega)).mono fun _ _ h => ⟨h.1, hp31.step h.2⟩) ?_
      refine QOPS.call (some 30) [GTag.val g, GTag.val (floT ([] : List (GTag × En)) dl)] (by kernel_rfl) (fun w34 hp35 => (tag_Compare g (floT ([] : List (GTag × En)) dl) _).mono fun _ _ h => ⟨h.1, hp35.step h.2⟩) ?_
      refine QOPS.batch 2 { wraps := [32] } [] [0, 1, 3, 6, 9, 10, 32] [.pointer (some ⟨tb, 0, none⟩), .string key, .slice hd.a hd.n hd.c, .pointer (some ⟨g3, 0, none⟩), .map none, .pointer (some ⟨g9, 0, none⟩), .bool (decide ((tagCmp g (floT ([] : List (GTag × En)) dl)) < 0))] hnehp15 (fun w36 hp37 => QB.mk .nil (by kernel_rfl)) (fun b38 => ?_)
      refine QOPS.nil (fun w39 hp40 => ?_)
      refine thn_n ?_
      exact ⟨decide ((tagCmp g (floT ([] : List (GTag × En)) dl)) < 0), trivial, Bp.of Bp.dec (by first | (simp only [h19, iff_false, false_iff, iff_true, true_iff, Classical.not_not, and_true, true_and, and_false, false_and, or_true, true_or, or_false, false_or, not_true_eq_false, not_false_eq_true, and_self, or_self, iff_self]; done) | (simp [h19]; done) | grind | (simp_all; done)), by kernel_rfl, hp40⟩
  rintro e43 w44 ⟨x41, hd46, hb42, hE47, hp45⟩
  obtain ⟨b48, rfl⟩ := toMk hE47
  clear hE47
  clear hd46
  refine WP.test (p := (((((mapV ([] : List (GTag × En)) g).getD en0).e.Has) = true)) ∨ ((¬ ((((mapV ([] : List (GTag × En)) g).getD en0).e.Has) = true)) ∧ ((tagCmp g (floT ([] : List (GTag × En)) dl)) < 0))) rfl hb42 (fun h49 => ?_) (fun h49 => ?_)
  · refine WP.seq ?_
    refine WP.pure {} [] [8] [.bool false] .nil (by kernel_rfl) (fun b50 => ?_)
    refine thn_n ?_
    refine WP.ret ?_
    refine thn_r ?_
    refine bodyQ.of _ rfl [.bool false] ⟨rfl, trivial⟩ ?_
    have hen : enK T key g = (mapV ([] : List (GTag × En)) g).getD en0 := by unfold enK; rw [shK_none hk]; rfl
    have hsh : shO (shK T key) = [] := by rw [shK_none hk]; rfl
    have hc : ¬ chgP T key g dl := by unfold chgP; rw [hen, hsh]; intro q; first | exact q h49 | exact q (.inl h49) | exact q (.inr ((cmp_lt _ _).1 h49)) | (simp_all [cmp_lt]; done)
    have hp51 := hp45.pull2
    have hp52 := hp51.shNoneB hk
    have hp53 := hp52.pull5
    have hp54 := hp53.pull1
    have hp55 := hp54.pull5
    have hp56 := hp55.pull5
    exact ⟨false, T, _, _, rfl, .inl ⟨hc, rfl, rfl, rfl⟩, (hp56.sub (.cons_cons _ (.cons_cons _ (.cons_cons _ (.cons_cons _ (.cons _ (.cons _ (.refl _))))))))⟩
  · refine WP.skip ?_
    refine thn_n ?_
    refine WP.seq ?_
    refine WP.seq ?_
    refine WP.pure {} [] [0, 1, 3, 6, 9, 10, 34] [.pointer (some ⟨tb, 0, none⟩), .string key, .slice hd.a hd.n hd.c, .pointer (some ⟨g3, 0, none⟩), .map none, .pointer (some ⟨g9, 0, none⟩), .bool true] .nil (by kernel_rfl) (fun b57 => ?_)
    refine thn_n ?_
    refine WP.condT rfl ?_
    refine WP.seq ?_
    refine WP.region _ rfl (by kernel_rfl) ?_
    refine OPS.cons (opStep.makeMapK kT vE hp45 (fun g60 w58 hp59 => ?_))
    refine OPS.batch 1 {} [] [0, 1, 3, 6, 9, 10] [.pointer (some ⟨tb, 0, none⟩), .string key, .slice hd.a hd.n hd.c, .pointer (some ⟨g3, 0, none⟩), .map (some g60), .pointer (some ⟨g9, 0, none⟩)] .nil (by kernel_rfl) (fun b61 => ?_)
    refine OPS.nil ?_
    refine thn_n ?_
    refine WP.region _ rfl (by kernel_rfl) ?_
    refine OPS.batch 6 {} [.map (some m)] [3, 6, 9, 10, 39, 40, 41] [.slice hd.a hd.n hd.c, .pointer (some ⟨g3, 0, none⟩), .map (some g60), .pointer (some ⟨g9, 0, none⟩), .map (some m), .string key, .map (some g60)] (.cons (Ld.row1 (P := Try.prog) (t := 52) (o := 1) (v := .map (some m)) hp59.get4 (by kernel_rfl)) .nil) (by kernel_rfl) (fun b62 => ?_)
    have hp65 := hp59.pull5
    refine OPS.cons (opStep.mapUpdateN keyKey (by exact Try.underlying52) hp65 key (some ⟨g60, []⟩ : Option Sf) (by kernel_rfl) (fun w63 hp64 => ?_))
    refine OPS.nil ?_
    refine thn_n ?_
    refine WP.seq ?_
    have hp66 := hp64.drew
    refine WP.held (fun w67 => Ld Try.prog w67 31 ⟨g3, 0, none⟩ (GTag.val g) ∧ Ld Try.prog w67 4 ⟨g9, 2, none⟩ (.bool (((mapV ([] : List (GTag × En)) g).getD en0).e.Fin)) ∧ True) [8] [(0, true), (1, true), (2, true), (3, true), (4, true), (5, true), (6, false), (7, true), (8, false)] (np_thn np_body) (by kernel_rfl) ?_
    refine HOPS.take 6 {} [GTag.val g, GTag.val g, .bool (((mapV ([] : List (GTag × En)) g).getD en0).e.Fin)] [42, 43, 44, 46, 47] [.map (some g60), GTag.val g, GTag.val g, .bool (((mapV ([] : List (GTag × En)) g).getD en0).e.Fin), .slice hd.a hd.n hd.c] (by kernel_rfl) ⟨(show Ld Try.prog w63.drew 31 ⟨g3, 0, none⟩ (GTag.val g) from Ld.rowN (cs := [.int .i64 g.Count, .int .i64 g.Client]) hp66.get3 (by kernel_rfl)), (show Ld Try.prog w63.drew 4 ⟨g9, 2, none⟩ (.bool (((mapV ([] : List (GTag × En)) g).getD en0).e.Fin)) from (Ld.row1 (P := Try.prog) (t := 4) (o := 2) (v := .bool (((mapV ([] : List (GTag × En)) g).getD en0).e.Fin)) hp66.get2 (by kernel_rfl))), trivial⟩ (fun w68 hS69 => QB.mk (.cons (hS69.1) (.cons (hS69.1) (.cons (hS69.2.1) .nil))) (by kernel_rfl)) (fun b70 => ?_)
    refine HOPS.eff _ rfl (opStep.call (some 48) [.slice hd.a hd.n hd.c] (by kernel_rfl) (cl_c hd d _ (hbt _ (hp66.sub (.cons _ (.cons _ (.cons _ (.cons _ (.cons _ (.cons _ (.cons _ (.refl _)))))))))) hsz) ?_)
    rintro _ w73 ⟨h75, F76, rfl, hp74⟩
    refine ⟨_, rfl, ?_⟩
    have hp77 := hp66.madeQ hp74
    simp only [List.cons_append, List.nil_append] at hp77
    refine ⟨.inr ⟨(show Ld Try.prog w73 31 ⟨g3, 0, none⟩ (GTag.val g) from Ld.rowN (cs := [.int .i64 g.Count, .int .i64 g.Client]) hp77.get4 (by kernel_rfl)), (show Ld Try.prog w73 4 ⟨g9, 2, none⟩ (.bool (((mapV ([] : List (GTag × En)) g).getD en0).e.Fin)) from (Ld.row1 (P := Try.prog) (t := 4) (o := 2) (v := .bool (((mapV ([] : List (GTag × En)) g).getD en0).e.Fin)) hp77.get3 (by kernel_rfl))), trivial⟩, ?_⟩
    refine HOPS.take 1 {} [] [42, 43, 49] [.map (some g60), GTag.val g, .agg #[.int .i64 g.Count, .int .i64 g.Client, .bool (((mapV ([] : List (GTag × En)) g).getD en0).e.Fin), .bool true, .slice h75.a h75.n h75.c]] (by kernel_rfl) ⟨(show Ld Try.prog w73 31 ⟨g3, 0, none⟩ (GTag.val g) from Ld.rowN (cs := [.int .i64 g.Count, .int .i64 g.Client]) hp77.get4 (by kernel_rfl)), (show Ld Try.prog w73 4 ⟨g9, 2, none⟩ (.bool (((mapV ([] : List (GTag × En)) g).getD en0).e.Fin)) from (Ld.row1 (P := Try.prog) (t := 4) (o := 2) (v := .bool (((mapV ([] : List (GTag × En)) g).getD en0).e.Fin)) hp77.get3 (by kernel_rfl))), trivial⟩ (fun w78 hS79 => QB.mk .nil (by kernel_rfl)) (fun b80 => ?_)
    refine HOPS.eff _ rfl (opStep.mapUpdate2 keyTag (by exact Try.underlying56) hp77 g (⟨(⟨g, ((mapV ([] : List (GTag × En)) g).getD en0).e.Fin, true, h75⟩ : GEntry), d⟩ : En) (by kernel_rfl) (fun w81 hp82 => ?_))
    refine ⟨.inl rfl, ?_⟩
    refine HOPS.nil ?_
    refine thn_n ?_
    refine WP.seq ?_
    refine WP.pure {} [] [8] [.bool true] .nil (by kernel_rfl) (fun b83 => ?_)
    refine thn_n ?_
    refine WP.ret ?_
    refine bodyQ.of _ rfl [.bool true] ⟨rfl, trivial⟩ ?_
    have hen : enK T key g = (mapV ([] : List (GTag × En)) g).getD en0 := by unfold enK; rw [shK_none hk]; rfl
    have hsh : shO (shK T key) = [] := by rw [shK_none hk]; rfl
    have hc : chgP T key g dl := by unfold chgP; rw [hen, hsh]; intro q; have q0_ := h49; (simp_all [cmp_lt]; done)
    have hp84 := hp82.pull7
    have hp85 := hp84.pull1
    have hp86 := hp85.datJoin
    have hp87 := hp86.pull1
    have hp88 := hp87.tbNew (l := mapPut ([] : List (GTag × En)) g (⟨(⟨g, ((mapV ([] : List (GTag × En)) g).getD en0).e.Fin, true, h75⟩ : GEntry), d⟩ : En))
    have hp89 := hp88.pull5
    have hp90 := hp89.pull3
    have hp91 := Hp.shPut (key := key) hp90
    have hp92 := hp91.pull2
    have hp93 := hp92.pull1
    have hp94 := hp93.pull2
    have hp95 := hp94.pull5
    exact ⟨true, _, _, _, rfl, .inr ⟨hc, rfl, g60, h75, [(h75, d)], by rw [hen, hsh], rfl, Dk.last⟩, (hp95.sub (.cons_cons _ (.cons_cons _ (.cons_cons _ (.cons_cons _ (.cons _ (.cons _ (.refl _))))))))⟩

end Go.Proofs.Ytdkgdidnknojlaa.K
