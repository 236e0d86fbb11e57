/- Texts of this claim, merged: what the program's functions compute, and the rules that the walks use. -/
import Derived.Test.YtdkgdidnknojlaaProg
import Derived.Test.YtdkgdidnknojlaaZ1
import Derived.Test.YtdkgdidnknojlaaZ4
import Derived.Test.YtdkgdidnknojlaaZ8
namespace Go.Proofs.Ytdkgdidnknojlaa.K
open Go Go.Proofs Go.RowKit
set_option linter.unusedVariables false
set_option linter.unusedSimpArgs false
set_option maxRecDepth 20000
set_option maxHeartbeats 4000000

def ApR (T : Tb) (D : List (SlH × ByteArray)) (u : GUpdate) (d : ByteArray) (dl : Nat) (f : Bool) (e : Int) (T2 : Tb) (D2 : List (SlH × ByteArray)) : Prop :=
  (¬ MayU u ∧ f = false ∧ e = 1 ∧ T2 = T ∧ D2 = D) ∨
  (MayU u ∧ e = 0 ∧ ∃ f1 f2 T1, ((comesU u ∧ PreR T D u.Key u.Entry.Tag d dl f1 T1 D2) ∨ (¬ comesU u ∧ f1 = false ∧ T1 = T ∧ D2 = D)) ∧ ((endsU u ∧ FinR T1 u.Key u.Entry.Tag dl f2 T2) ∨ (¬ endsU u ∧ f2 = false ∧ T2 = T1)) ∧ (f = true ↔ f1 = true ∨ f2 = true))
theorem apply_c (w0 w : World) (L : List Res) (tb m dl : Nat) (T : Tb) (F : Nat → Prop) (D : List (SlH × ByteArray)) (u : GUpdate) (d : ByteArray) (hbt : ∀ w1, Hp w0 Non L w1 → Bt w1 u.Entry.Data d) (hsz : d.size ≤ 140737488355327) (hdl : dl ≤ 4611686018427387903) (n : Nat) (hok : TbOk T D n) (hn : n ≤ 1048590) (hp0 : Hp w0 Non (Res.row tb [.int .i64 (dl : Int), .map (some m)] 54 :: Res.mp m kS vO T :: Res.all (T.map shRes) :: Res.dat F D :: L) w) :
    Calls Try.prog 7 #[.pointer (some ⟨tb, 0, none⟩), GUpdate.val u] w (fun r_ w' => ∃ f e T2 F2 D2, r_ = .returned (.tuple #[.bool f, .int .i64 e]) ∧ (ApR T D u d dl f e T2 D2 ∧ TbOk T2 D2 (n + 2)) ∧ Hp w0 Non (Res.row tb [.int .i64 (dl : Int), .map (some m)] 54 :: Res.mp m kS vO T2 :: Res.all (T2.map shRes) :: Res.dat F2 D2 :: L) w') := by
  refine calls_of Try.func7 rfl 58 rfl (by simp) ?_
  have he0 : List.map (env0 [.pointer (some ⟨tb, 0, none⟩), GUpdate.val u]) [0, 1] = [.pointer (some ⟨tb, 0, none⟩), GUpdate.val u] := by kernel_rfl
  obtain ⟨b0, he0⟩ := toMk he0
  rw [he0]
  clear he0
  refine WP.seq ?_
  refine WP.region _ rfl (by kernel_rfl) ?_
  refine OPS.cons (opStep.box hp0 [.int .i64 u.Kind, .string u.Key, .int .i64 u.Entry.Tag.Count, .int .i64 u.Entry.Tag.Client, .bool u.Entry.Fin, .bool u.Entry.Has, .slice u.Entry.Data.a u.Entry.Data.n u.Entry.Data.c] (by kernel_rfl) (fun g3 w1 hp2 => ?_))
  refine OPS.batch 2 {} [] [0, 3] [.pointer (some ⟨tb, 0, none⟩), .pointer (some ⟨g3, 0, none⟩)] .nil (by kernel_rfl) (fun b4 => ?_)
  refine OPS.nil ?_
  refine thn_n ?_
  refine WP.seq ?_
  refine WP.seq ?_
  refine WP.pure {} [] [0, 3, 8] [.pointer (some ⟨tb, 0, none⟩), .pointer (some ⟨g3, 0, none⟩), .bool false] .nil (by kernel_rfl) (fun b5 => ?_)
  refine thn_n ?_
  refine WP.condF rfl ?_
  refine WP.skip ?_
  refine thn_n ?_
  refine WP.seq ?_
  refine WP.seq ?_
  refine WP.region _ rfl (by kernel_rfl) ?_
  refine OPS.batch 1 {} [GUpdate.val u] [0, 3, 9] [.pointer (some ⟨tb, 0, none⟩), .pointer (some ⟨g3, 0, none⟩), GUpdate.val u] (.cons (show Ld Try.prog w1 36 ⟨g3, 0, none⟩ (GUpdate.val u) from Ld.rowN (cs := [.int .i64 u.Kind, .string u.Key, .int .i64 u.Entry.Tag.Count, .int .i64 u.Entry.Tag.Client, .bool u.Entry.Fin, .bool u.Entry.Has, .slice u.Entry.Data.a u.Entry.Data.n u.Entry.Data.c]) hp2.get0 (by kernel_rfl)) .nil) (by kernel_rfl) (fun b6 => ?_)
  refine OPS.cons (opStep.call (some 10) [GUpdate.val u] (by kernel_rfl) (may_c u _) ?_)
  rintro _ w9 ⟨b12, rfl, hb13, hf10⟩
  refine ⟨_, rfl, ?_⟩
  have hp11 := hp2.step hf10
  refine OPS.batch 1 {} [] [0, 3, 11] [.pointer (some ⟨tb, 0, none⟩), .pointer (some ⟨g3, 0, none⟩), .bool (!b12)] .nil (by kernel_rfl) (fun b14 => ?_)
  refine OPS.nil ?_
  refine thn_n ?_
  refine WP.test (p := ¬ (MayU u)) rfl (Bp.not hb13) (fun h15 => ?_) (fun h15 => ?_)
  · refine WP.seq ?_
    refine WP.pure {} [] [4, 5] [.bool false, .int .i64 1] .nil (by kernel_rfl) (fun b16 => ?_)
    refine thn_n ?_
    refine WP.ret ?_
    refine thn_r ?_
    refine bodyQ.of _ rfl [.bool false, .int .i64 1] ⟨rfl, rfl, trivial⟩ ?_
    have hp17 := hp11.pull4
    have hp18 := hp17.pull4
    have hp19 := hp18.pull4
    have hp20 := hp19.pull4
    exact ⟨false, 1, T, F, D, rfl, ⟨.inl ⟨h15, rfl, rfl, rfl, rfl⟩, hok.more.more⟩, (hp20.sub (.cons_cons _ (.cons_cons _ (.cons_cons _ (.cons_cons _ (.cons _ (.refl _)))))))⟩
  · replace h15 := Classical.not_not.1 h15
    refine WP.skip ?_
    refine thn_n ?_
    refine WP.seq ?_
    refine WP.pure {} [] [0, 3, 6] [.pointer (some ⟨tb, 0, none⟩), .pointer (some ⟨g3, 0, none⟩), .bool false] .nil (by kernel_rfl) (fun b21 => ?_)
    refine thn_n ?_
    refine WP.seq ?_
    refine WP.seq ?_
    refine WP.region _ rfl (by kernel_rfl) ?_
    refine OPS.batch 4 {} [.int .i64 u.Kind] [0, 3, 6, 15] [.pointer (some ⟨tb, 0, none⟩), .pointer (some ⟨g3, 0, none⟩), .bool false, .bool (decide (u.Kind = 1))] (.cons (Ld.row1 (P := Try.prog) (t := 3) (o := 0) (v := .int .i64 u.Kind) hp11.get0 (by kernel_rfl)) .nil) (by kernel_rfl) (fun b22 => ?_)
    by_cases h23 : u.Kind = 1
    · refine OPS.batch 0 {} [] [0, 3, 6, 15] [.pointer (some ⟨tb, 0, none⟩), .pointer (some ⟨g3, 0, none⟩), .bool false, .bool (decide (u.Kind = 1))] .nil (by kernel_rfl) (fun b24 => ?_)
      refine OPS.re [.pointer (some ⟨tb, 0, none⟩), .pointer (some ⟨g3, 0, none⟩), .bool false, .bool true] (by rw [show (decide (u.Kind = 1)) = true from Bp.dec.tt h23]) ?_
      refine OPS.batch 9 { wraps := [24] } [] [0, 3, 6, 24] [.pointer (some ⟨tb, 0, none⟩), .pointer (some ⟨g3, 0, none⟩), .bool false, .bool true] .nil (by kernel_rfl) (fun b25 => ?_)
      refine OPS.nil ?_
      refine thn_n ?_
      refine WP.condT rfl ?_
      refine WP.region _ rfl (by kernel_rfl) ?_
      refine OPS.batch 9 {} [.string u.Key, .agg #[.int .i64 u.Entry.Tag.Count, .int .i64 u.Entry.Tag.Client], .slice u.Entry.Data.a u.Entry.Data.n u.Entry.Data.c] [0, 3, 25, 27, 30, 33] [.pointer (some ⟨tb, 0, none⟩), .pointer (some ⟨g3, 0, none⟩), .pointer (some ⟨tb, 0, none⟩), .string u.Key, .agg #[.int .i64 u.Entry.Tag.Count, .int .i64 u.Entry.Tag.Client], .slice u.Entry.Data.a u.Entry.Data.n u.Entry.Data.c] (.cons (Ld.row1 (P := Try.prog) (t := 9) (o := 1) (v := .string u.Key) hp11.get0 (by kernel_rfl)) (.cons (show Ld Try.prog w9 31 ⟨g3, 2, none⟩ (.agg #[.int .i64 u.Entry.Tag.Count, .int .i64 u.Entry.Tag.Client]) from Ld.rowN (cs := [.int .i64 u.Entry.Tag.Count, .int .i64 u.Entry.Tag.Client]) hp11.get0 (by kernel_rfl)) (.cons (Ld.row1 (P := Try.prog) (t := 32) (o := 6) (v := .slice u.Entry.Data.a u.Entry.Data.n u.Entry.Data.c) hp11.get0 (by kernel_rfl)) .nil))) (by kernel_rfl) (fun b26 => ?_)
      have hp29 := hp11.pull4
      have hp30 := hp29.pull4
      have hp31 := hp30.pull4
      have hp32 := hp31.pull4
      refine OPS.cons (opStep.call (some 34) [.pointer (some ⟨tb, 0, none⟩), .string u.Key, .agg #[.int .i64 u.Entry.Tag.Count, .int .i64 u.Entry.Tag.Client], .slice u.Entry.Data.a u.Entry.Data.n u.Entry.Data.c] (by kernel_rfl) (pre_c w0 _ _ tb m dl T F D u.Key u.Entry.Tag u.Entry.Data d (fun w1_ h1_ => hbt w1_ (h1_.sub (.cons _ (.refl _)))) hsz hdl hp32 n hok (by omega)) ?_)
      rintro _ w33 ⟨f35, T36, F37, D38, rfl, hq39, hp34⟩
      refine ⟨_, rfl, ?_⟩
      have hok40 := hq39.ok hok
      refine OPS.batch 1 {} [] [0, 3, 6] [.pointer (some ⟨tb, 0, none⟩), .pointer (some ⟨g3, 0, none⟩), .bool f35] .nil (by kernel_rfl) (fun b41 => ?_)
      refine OPS.nil ?_
      refine thn_n ?_
      refine WP.seq ?_
      refine WP.seq ?_
      refine WP.region _ rfl (by kernel_rfl) ?_
      refine OPS.batch 4 {} [.int .i64 u.Kind] [0, 3, 6, 38] [.pointer (some ⟨tb, 0, none⟩), .pointer (some ⟨g3, 0, none⟩), .bool f35, .bool (decide (u.Kind = 2))] (.cons (Ld.row1 (P := Try.prog) (t := 3) (o := 0) (v := .int .i64 u.Kind) hp34.get4 (by kernel_rfl)) .nil) (by kernel_rfl) (fun b42 => ?_)
      by_cases h43 : u.Kind = 2
      · refine OPS.batch 0 {} [] [0, 3, 6, 38] [.pointer (some ⟨tb, 0, none⟩), .pointer (some ⟨g3, 0, none⟩), .bool f35, .bool (decide (u.Kind = 2))] .nil (by kernel_rfl) (fun b44 => ?_)
        refine OPS.re [.pointer (some ⟨tb, 0, none⟩), .pointer (some ⟨g3, 0, none⟩), .bool f35, .bool true] (by rw [show (decide (u.Kind = 2)) = true from Bp.dec.tt h43]) ?_
        refine OPS.batch 16 { wraps := [47] } [.string u.Key, .agg #[.int .i64 u.Entry.Tag.Count, .int .i64 u.Entry.Tag.Client]] [6, 48, 49, 51, 54] [.bool f35, .bool true, .pointer (some ⟨tb, 0, none⟩), .string u.Key, .agg #[.int .i64 u.Entry.Tag.Count, .int .i64 u.Entry.Tag.Client]] (.cons (Ld.row1 (P := Try.prog) (t := 9) (o := 1) (v := .string u.Key) hp34.get4 (by kernel_rfl)) (.cons (show Ld Try.prog w33 31 ⟨g3, 2, none⟩ (.agg #[.int .i64 u.Entry.Tag.Count, .int .i64 u.Entry.Tag.Client]) from Ld.rowN (cs := [.int .i64 u.Entry.Tag.Count, .int .i64 u.Entry.Tag.Client]) hp34.get4 (by kernel_rfl)) .nil)) (by kernel_rfl) (fun b45 => ?_)
        refine OPS.want (by kernel_rfl) ?_
        have hp48 := hp34.pull3
        have hp49 := hp48.pull3
        have hp50 := hp49.pull3
        have hp51 := hp50.pull3
        refine OPS.cons (opStep.call (some 55) [.pointer (some ⟨tb, 0, none⟩), .string u.Key, .agg #[.int .i64 u.Entry.Tag.Count, .int .i64 u.Entry.Tag.Client]] (by kernel_rfl) (fin_c w0 _ _ tb m dl T36 F37 D38 u.Key u.Entry.Tag hdl hp51 (n + 1) hok40 (by omega)) ?_)
        rintro _ w52 ⟨f54, T55, rfl, hq58, hp53⟩
        refine ⟨_, rfl, ?_⟩
        have hok59 := hq58.ok hok40
        refine OPS.batch 1 { wraps := [56] } [] [6, 56] [.bool f35, .bool f54] .nil (by kernel_rfl) (fun b60 => ?_)
        refine OPS.nil ?_
        refine thn_n ?_
        refine WP.test (p := f54 = true) rfl Bp.var (fun h61 => ?_) (fun h61 => ?_)
        · refine WP.pure {} [] [6] [.bool true] .nil (by kernel_rfl) (fun b62 => ?_)
          refine thn_n ?_
          refine WP.seq ?_
          refine WP.pure {} [] [4, 5] [.bool true, .int .i64 0] .nil (by kernel_rfl) (fun b63 => ?_)
          refine thn_n ?_
          refine WP.ret ?_
          refine bodyQ.of _ rfl [.bool true, .int .i64 0] ⟨rfl, rfl, trivial⟩ ?_
          have hp64 := hp53.pull3
          have hp65 := hp64.pull3
          have hp66 := hp65.pull3
          have hp67 := hp66.pull3
          exact ⟨true, 0, T55, F37, D38, rfl, ⟨.inr ⟨by first | exact h15 | exact Classical.not_not.1 h15, rfl, f35, f54, T36, .inl ⟨by unfold comesU; have q0_ := h15; have q1_ := h23; have q2_ := h43; have q3_ := h61; first | grind | (simp_all; done), hq39⟩, .inl ⟨by unfold endsU; have q0_ := h15; have q1_ := h23; have q2_ := h43; have q3_ := h61; first | grind | (simp_all; done), hq58⟩, by have q0_ := h15; have q1_ := h23; have q2_ := h43; have q3_ := h61; first | (simp; done) | grind | (simp_all; done)⟩, hok59⟩, (hp67.sub (.cons_cons _ (.cons_cons _ (.cons_cons _ (.cons_cons _ (.cons _ (.refl _)))))))⟩
        · refine WP.skip ?_
          refine thn_n ?_
          refine WP.seq ?_
          refine WP.pure {} [] [4, 5] [.bool f35, .int .i64 0] .nil (by kernel_rfl) (fun b68 => ?_)
          refine thn_n ?_
          refine WP.ret ?_
          refine bodyQ.of _ rfl [.bool f35, .int .i64 0] ⟨rfl, rfl, trivial⟩ ?_
          have hp69 := hp53.pull3
          have hp70 := hp69.pull3
          have hp71 := hp70.pull3
          have hp72 := hp71.pull3
          exact ⟨f35, 0, T55, F37, D38, rfl, ⟨.inr ⟨by first | exact h15 | exact Classical.not_not.1 h15, rfl, f35, f54, T36, .inl ⟨by unfold comesU; have q0_ := h15; have q1_ := h23; have q2_ := h43; have q3_ := h61; first | grind | (simp_all; done), hq39⟩, .inl ⟨by unfold endsU; have q0_ := h15; have q1_ := h23; have q2_ := h43; have q3_ := h61; first | grind | (simp_all; done), hq58⟩, by have q0_ := h15; have q1_ := h23; have q2_ := h43; have q3_ := h61; first | (simp; done) | grind | (simp_all; done)⟩, hok59⟩, (hp72.sub (.cons_cons _ (.cons_cons _ (.cons_cons _ (.cons_cons _ (.cons _ (.refl _)))))))⟩
      · refine OPS.batch 0 {} [] [0, 3, 6, 38] [.pointer (some ⟨tb, 0, none⟩), .pointer (some ⟨g3, 0, none⟩), .bool f35, .bool (decide (u.Kind = 2))] .nil (by kernel_rfl) (fun b73 => ?_)
        refine OPS.re [.pointer (some ⟨tb, 0, none⟩), .pointer (some ⟨g3, 0, none⟩), .bool f35, .bool false] (by rw [show (decide (u.Kind = 2)) = false from Bp.dec.ff h43]) ?_
        refine OPS.batch 4 {} [.int .i64 u.Kind] [0, 3, 6, 38, 42] [.pointer (some ⟨tb, 0, none⟩), .pointer (some ⟨g3, 0, none⟩), .bool f35, .bool false, .bool (decide (u.Kind = 3))] (.cons (Ld.row1 (P := Try.prog) (t := 3) (o := 0) (v := .int .i64 u.Kind) hp34.get4 (by kernel_rfl)) .nil) (by kernel_rfl) (fun b74 => ?_)
        by_cases h75 : u.Kind = 3
        · refine OPS.batch 0 {} [] [0, 3, 6, 38, 42] [.pointer (some ⟨tb, 0, none⟩), .pointer (some ⟨g3, 0, none⟩), .bool f35, .bool false, .bool (decide (u.Kind = 3))] .nil (by kernel_rfl) (fun b76 => ?_)
          refine OPS.re [.pointer (some ⟨tb, 0, none⟩), .pointer (some ⟨g3, 0, none⟩), .bool f35, .bool false, .bool true] (by rw [show (decide (u.Kind = 3)) = true from Bp.dec.tt h75]) ?_
          refine OPS.batch 6 { wraps := [46, 47] } [.bool u.Entry.Fin] [0, 3, 6, 48] [.pointer (some ⟨tb, 0, none⟩), .pointer (some ⟨g3, 0, none⟩), .bool f35, .bool u.Entry.Fin] (.cons (Ld.row1 (P := Try.prog) (t := 4) (o := 4) (v := .bool u.Entry.Fin) hp34.get4 (by kernel_rfl)) .nil) (by kernel_rfl) (fun b77 => ?_)
          by_cases h78 : u.Entry.Fin = true
          · refine OPS.batch 0 {} [] [0, 3, 6, 48] [.pointer (some ⟨tb, 0, none⟩), .pointer (some ⟨g3, 0, none⟩), .bool f35, .bool u.Entry.Fin] .nil (by kernel_rfl) (fun b79 => ?_)
            refine OPS.re [.pointer (some ⟨tb, 0, none⟩), .pointer (some ⟨g3, 0, none⟩), .bool f35, .bool true] (by rw [show u.Entry.Fin = true from Bp.var.tt h78]) ?_
            refine OPS.batch 6 {} [.string u.Key, .agg #[.int .i64 u.Entry.Tag.Count, .int .i64 u.Entry.Tag.Client]] [6, 48, 49, 51, 54] [.bool f35, .bool true, .pointer (some ⟨tb, 0, none⟩), .string u.Key, .agg #[.int .i64 u.Entry.Tag.Count, .int .i64 u.Entry.Tag.Client]] (.cons (Ld.row1 (P := Try.prog) (t := 9) (o := 1) (v := .string u.Key) hp34.get4 (by kernel_rfl)) (.cons (show Ld Try.prog w33 31 ⟨g3, 2, none⟩ (.agg #[.int .i64 u.Entry.Tag.Count, .int .i64 u.Entry.Tag.Client]) from Ld.rowN (cs := [.int .i64 u.Entry.Tag.Count, .int .i64 u.Entry.Tag.Client]) hp34.get4 (by kernel_rfl)) .nil)) (by kernel_rfl) (fun b80 => ?_)
            refine OPS.want (by kernel_rfl) ?_
            have hp83 := hp34.pull3
            have hp84 := hp83.pull3
            have hp85 := hp84.pull3
            have hp86 := hp85.pull3
            refine OPS.cons (opStep.call (some 55) [.pointer (some ⟨tb, 0, none⟩), .string u.Key, .agg #[.int .i64 u.Entry.Tag.Count, .int .i64 u.Entry.Tag.Client]] (by kernel_rfl) (fin_c w0 _ _ tb m dl T36 F37 D38 u.Key u.Entry.Tag hdl hp86 (n + 1) hok40 (by omega)) ?_)
            rintro _ w87 ⟨f89, T90, rfl, hq93, hp88⟩
            refine ⟨_, rfl, ?_⟩
            have hok94 := hq93.ok hok40
            refine OPS.batch 1 { wraps := [56] } [] [6, 56] [.bool f35, .bool f89] .nil (by kernel_rfl) (fun b95 => ?_)
            refine OPS.nil ?_
            refine thn_n ?_
            refine WP.test (p := f89 = true) rfl Bp.var (fun h96 => ?_) (fun h96 => ?_)
            · refine WP.pure {} [] [6] [.bool true] .nil (by kernel_rfl) (fun b97 => ?_)
              refine thn_n ?_
              refine WP.seq ?_
              refine WP.pure {} [] [4, 5] [.bool true, .int .i64 0] .nil (by kernel_rfl) (fun b98 => ?_)
              refine thn_n ?_
              refine WP.ret ?_
              refine bodyQ.of _ rfl [.bool true, .int .i64 0] ⟨rfl, rfl, trivial⟩ ?_
              have hp99 := hp88.pull3
              have hp100 := hp99.pull3
              have hp101 := hp100.pull3
              have hp102 := hp101.pull3
              exact ⟨true, 0, T90, F37, D38, rfl, ⟨.inr ⟨by first | exact h15 | exact Classical.not_not.1 h15, rfl, f35, f89, T36, .inl ⟨by unfold comesU; have q0_ := h15; have q1_ := h23; have q2_ := h43; have q3_ := h75; have q4_ := h78; have q5_ := h96; first | grind | (simp_all; done), hq39⟩, .inl ⟨by unfold endsU; have q0_ := h15; have q1_ := h23; have q2_ := h43; have q3_ := h75; have q4_ := h78; have q5_ := h96; first | grind | (simp_all; done), hq93⟩, by have q0_ := h15; have q1_ := h23; have q2_ := h43; have q3_ := h75; have q4_ := h78; have q5_ := h96; first | (simp; done) | grind | (simp_all; done)⟩, hok94⟩, (hp102.sub (.cons_cons _ (.cons_cons _ (.cons_cons _ (.cons_cons _ (.cons _ (.refl _)))))))⟩
            · refine WP.skip ?_
              refine thn_n ?_
              refine WP.seq ?_
              refine WP.pure {} [] [4, 5] [.bool f35, .int .i64 0] .nil (by kernel_rfl) (fun b103 => ?_)
              refine thn_n ?_
              refine WP.ret ?_
              refine bodyQ.of _ rfl [.bool f35, .int .i64 0] ⟨rfl, rfl, trivial⟩ ?_
              have hp104 := hp88.pull3
              have hp105 := hp104.pull3
              have hp106 := hp105.pull3
              have hp107 := hp106.pull3
              exact ⟨f35, 0, T90, F37, D38, rfl, ⟨.inr ⟨by first | exact h15 | exact Classical.not_not.1 h15, rfl, f35, f89, T36, .inl ⟨by unfold comesU; have q0_ := h15; have q1_ := h23; have q2_ := h43; have q3_ := h75; have q4_ := h78; have q5_ := h96; first | grind | (simp_all; done), hq39⟩, .inl ⟨by unfold endsU; have q0_ := h15; have q1_ := h23; have q2_ := h43; have q3_ := h75; have q4_ := h78; have q5_ := h96; first | grind | (simp_all; done), hq93⟩, by have q0_ := h15; have q1_ := h23; have q2_ := h43; have q3_ := h75; have q4_ := h78; have q5_ := h96; first | (simp; done) | grind | (simp_all; done)⟩, hok94⟩, (hp107.sub (.cons_cons _ (.cons_cons _ (.cons_cons _ (.cons_cons _ (.cons _ (.refl _)))))))⟩
          · refine OPS.batch 0 {} [] [0, 3, 6, 48] [.pointer (some ⟨tb, 0, none⟩), .pointer (some ⟨g3, 0, none⟩), .bool f35, .bool u.Entry.Fin] .nil (by kernel_rfl) (fun b108 => ?_)
            refine OPS.re [.pointer (some ⟨tb, 0, none⟩), .pointer (some ⟨g3, 0, none⟩), .bool f35, .bool false] (by rw [show u.Entry.Fin = false from Bp.var.ff h78]) ?_
            refine OPS.batch 8 { wraps := [56] } [] [6, 56] [.bool f35, .bool false] .nil (by kernel_rfl) (fun b109 => ?_)
            refine OPS.nil ?_
            refine thn_n ?_
            refine WP.condF rfl ?_
            refine WP.skip ?_
            refine thn_n ?_
            refine WP.seq ?_
            refine WP.pure {} [] [4, 5] [.bool f35, .int .i64 0] .nil (by kernel_rfl) (fun b110 => ?_)
            refine thn_n ?_
            refine WP.ret ?_
            refine bodyQ.of _ rfl [.bool f35, .int .i64 0] ⟨rfl, rfl, trivial⟩ ?_
            have hp111 := hp34.pull3
            have hp112 := hp111.pull3
            have hp113 := hp112.pull3
            have hp114 := hp113.pull3
            exact ⟨f35, 0, T36, F37, D38, rfl, ⟨.inr ⟨by first | exact h15 | exact Classical.not_not.1 h15, rfl, f35, false, T36, .inl ⟨by unfold comesU; have q0_ := h15; have q1_ := h23; have q2_ := h43; have q3_ := h75; have q4_ := h78; first | grind | (simp_all; done), hq39⟩, .inr ⟨by unfold endsU; have q0_ := h15; have q1_ := h23; have q2_ := h43; have q3_ := h75; have q4_ := h78; first | grind | (simp_all; done), rfl, rfl⟩, by have q0_ := h15; have q1_ := h23; have q2_ := h43; have q3_ := h75; have q4_ := h78; first | (simp; done) | grind | (simp_all; done)⟩, hok40.more⟩, (hp114.sub (.cons_cons _ (.cons_cons _ (.cons_cons _ (.cons_cons _ (.cons _ (.refl _)))))))⟩
        · refine OPS.batch 0 {} [] [0, 3, 6, 38, 42] [.pointer (some ⟨tb, 0, none⟩), .pointer (some ⟨g3, 0, none⟩), .bool f35, .bool false, .bool (decide (u.Kind = 3))] .nil (by kernel_rfl) (fun b115 => ?_)
          refine OPS.re [.pointer (some ⟨tb, 0, none⟩), .pointer (some ⟨g3, 0, none⟩), .bool f35, .bool false, .bool false] (by rw [show (decide (u.Kind = 3)) = false from Bp.dec.ff h75]) ?_
          refine OPS.batch 14 { wraps := [46, 47, 56] } [] [6, 56] [.bool f35, .bool false] .nil (by kernel_rfl) (fun b116 => ?_)
          refine OPS.nil ?_
          refine thn_n ?_
          refine WP.condF rfl ?_
          refine WP.skip ?_
          refine thn_n ?_
          refine WP.seq ?_
          refine WP.pure {} [] [4, 5] [.bool f35, .int .i64 0] .nil (by kernel_rfl) (fun b117 => ?_)
          refine thn_n ?_
          refine WP.ret ?_
          refine bodyQ.of _ rfl [.bool f35, .int .i64 0] ⟨rfl, rfl, trivial⟩ ?_
          have hp118 := hp34.pull3
          have hp119 := hp118.pull3
          have hp120 := hp119.pull3
          have hp121 := hp120.pull3
          exact ⟨f35, 0, T36, F37, D38, rfl, ⟨.inr ⟨by first | exact h15 | exact Classical.not_not.1 h15, rfl, f35, false, T36, .inl ⟨by unfold comesU; have q0_ := h15; have q1_ := h23; have q2_ := h43; have q3_ := h75; first | grind | (simp_all; done), hq39⟩, .inr ⟨by unfold endsU; have q0_ := h15; have q1_ := h23; have q2_ := h43; have q3_ := h75; first | grind | (simp_all; done), rfl, rfl⟩, by have q0_ := h15; have q1_ := h23; have q2_ := h43; have q3_ := h75; first | (simp; done) | grind | (simp_all; done)⟩, hok40.more⟩, (hp121.sub (.cons_cons _ (.cons_cons _ (.cons_cons _ (.cons_cons _ (.cons _ (.refl _)))))))⟩
    · refine OPS.batch 0 {} [] [0, 3, 6, 15] [.pointer (some ⟨tb, 0, none⟩), .pointer (some ⟨g3, 0, none⟩), .bool false, .bool (decide (u.Kind = 1))] .nil (by kernel_rfl) (fun b122 => ?_)
      refine OPS.re [.pointer (some ⟨tb, 0, none⟩), .pointer (some ⟨g3, 0, none⟩), .bool false, .bool false] (by rw [show (decide (u.Kind = 1)) = false from Bp.dec.ff h23]) ?_
      refine OPS.batch 4 {} [.int .i64 u.Kind] [0, 3, 6, 15, 19] [.pointer (some ⟨tb, 0, none⟩), .pointer (some ⟨g3, 0, none⟩), .bool false, .bool false, .bool (decide (u.Kind = 3))] (.cons (Ld.row1 (P := Try.prog) (t := 3) (o := 0) (v := .int .i64 u.Kind) hp11.get0 (by kernel_rfl)) .nil) (by kernel_rfl) (fun b123 => ?_)
      by_cases h124 : u.Kind = 3
      · refine OPS.batch 0 {} [] [0, 3, 6, 15, 19] [.pointer (some ⟨tb, 0, none⟩), .pointer (some ⟨g3, 0, none⟩), .bool false, .bool false, .bool (decide (u.Kind = 3))] .nil (by kernel_rfl) (fun b125 => ?_)
        refine OPS.re [.pointer (some ⟨tb, 0, none⟩), .pointer (some ⟨g3, 0, none⟩), .bool false, .bool false, .bool true] (by rw [show (decide (u.Kind = 3)) = true from Bp.dec.tt h124]) ?_
        refine OPS.batch 5 { wraps := [23, 24] } [.bool u.Entry.Has] [0, 3, 6, 24] [.pointer (some ⟨tb, 0, none⟩), .pointer (some ⟨g3, 0, none⟩), .bool false, .bool u.Entry.Has] (.cons (Ld.row1 (P := Try.prog) (t := 4) (o := 5) (v := .bool u.Entry.Has) hp11.get0 (by kernel_rfl)) .nil) (by kernel_rfl) (fun b126 => ?_)
        refine OPS.nil ?_
        refine thn_n ?_
        refine WP.test (p := u.Entry.Has = true) rfl Bp.var (fun h127 => ?_) (fun h127 => ?_)
        · refine WP.region _ rfl (by kernel_rfl) ?_
          refine OPS.batch 9 {} [.string u.Key, .agg #[.int .i64 u.Entry.Tag.Count, .int .i64 u.Entry.Tag.Client], .slice u.Entry.Data.a u.Entry.Data.n u.Entry.Data.c] [0, 3, 25, 27, 30, 33] [.pointer (some ⟨tb, 0, none⟩), .pointer (some ⟨g3, 0, none⟩), .pointer (some ⟨tb, 0, none⟩), .string u.Key, .agg #[.int .i64 u.Entry.Tag.Count, .int .i64 u.Entry.Tag.Client], .slice u.Entry.Data.a u.Entry.Data.n u.Entry.Data.c] (.cons (Ld.row1 (P := Try.prog) (t := 9) (o := 1) (v := .string u.Key) hp11.get0 (by kernel_rfl)) (.cons (show Ld Try.prog w9 31 ⟨g3, 2, none⟩ (.agg #[.int .i64 u.Entry.Tag.Count, .int .i64 u.Entry.Tag.Client]) from Ld.rowN (cs := [.int .i64 u.Entry.Tag.Count, .int .i64 u.Entry.Tag.Client]) hp11.get0 (by kernel_rfl)) (.cons (Ld.row1 (P := Try.prog) (t := 32) (o := 6) (v := .slice u.Entry.Data.a u.Entry.Data.n u.Entry.Data.c) hp11.get0 (by kernel_rfl)) .nil))) (by kernel_rfl) (fun b128 => ?_)
          have hp131 := hp11.pull4
          have hp132 := hp131.pull4
          have hp133 := hp132.pull4
          have hp134 := hp133.pull4
          refine OPS.cons (opStep.call (some 34) [.pointer (some ⟨tb, 0, none⟩), .string u.Key, .agg #[.int .i64 u.Entry.Tag.Count, .int .i64 u.Entry.Tag.Client], .slice u.Entry.Data.a u.Entry.Data.n u.Entry.Data.c] (by kernel_rfl) (pre_c w0 _ _ tb m dl T F D u.Key u.Entry.Tag u.Entry.Data d (fun w1_ h1_ => hbt w1_ (h1_.sub (.cons _ (.refl _)))) hsz hdl hp134 n hok (by omega)) ?_)
          rintro _ w135 ⟨f137, T138, F139, D140, rfl, hq141, hp136⟩
          refine ⟨_, rfl, ?_⟩
          have hok142 := hq141.ok hok
          refine OPS.batch 1 {} [] [0, 3, 6] [.pointer (some ⟨tb, 0, none⟩), .pointer (some ⟨g3, 0, none⟩), .bool f137] .nil (by kernel_rfl) (fun b143 => ?_)
          refine OPS.nil ?_
          refine thn_n ?_
          refine WP.seq ?_
          refine WP.seq ?_
          refine WP.region _ rfl (by kernel_rfl) ?_
          refine OPS.batch 4 {} [.int .i64 u.Kind] [0, 3, 6, 38] [.pointer (some ⟨tb, 0, none⟩), .pointer (some ⟨g3, 0, none⟩), .bool f137, .bool (decide (u.Kind = 2))] (.cons (Ld.row1 (P := Try.prog) (t := 3) (o := 0) (v := .int .i64 u.Kind) hp136.get4 (by kernel_rfl)) .nil) (by kernel_rfl) (fun b144 => ?_)
          by_cases h145 : u.Kind = 2
          · refine OPS.batch 0 {} [] [0, 3, 6, 38] [.pointer (some ⟨tb, 0, none⟩), .pointer (some ⟨g3, 0, none⟩), .bool f137, .bool (decide (u.Kind = 2))] .nil (by kernel_rfl) (fun b146 => ?_)
            refine OPS.re [.pointer (some ⟨tb, 0, none⟩), .pointer (some ⟨g3, 0, none⟩), .bool f137, .bool true] (by rw [show (decide (u.Kind = 2)) = true from Bp.dec.tt h145]) ?_
            refine OPS.batch 16 { wraps := [47] } [.string u.Key, .agg #[.int .i64 u.Entry.Tag.Count, .int .i64 u.Entry.Tag.Client]] [6, 48, 49, 51, 54] [.bool f137, .bool true, .pointer (some ⟨tb, 0, none⟩), .string u.Key, .agg #[.int .i64 u.Entry.Tag.Count, .int .i64 u.Entry.Tag.Client]] (.cons (Ld.row1 (P := Try.prog) (t := 9) (o := 1) (v := .string u.Key) hp136.get4 (by kernel_rfl)) (.cons (show Ld Try.prog w135 31 ⟨g3, 2, none⟩ (.agg #[.int .i64 u.Entry.Tag.Count, .int .i64 u.Entry.Tag.Client]) from Ld.rowN (cs := [.int .i64 u.Entry.Tag.Count, .int .i64 u.Entry.Tag.Client]) hp136.get4 (by kernel_rfl)) .nil)) (by kernel_rfl) (fun b147 => ?_)
            refine OPS.want (by kernel_rfl) ?_
            have hp150 := hp136.pull3
            have hp151 := hp150.pull3
            have hp152 := hp151.pull3
            have hp153 := hp152.pull3
            refine OPS.cons (opStep.call (some 55) [.pointer (some ⟨tb, 0, none⟩), .string u.Key, .agg #[.int .i64 u.Entry.Tag.Count, .int .i64 u.Entry.Tag.Client]] (by kernel_rfl) (fin_c w0 _ _ tb m dl T138 F139 D140 u.Key u.Entry.Tag hdl hp153 (n + 1) hok142 (by omega)) ?_)
            rintro _ w154 ⟨f156, T157, rfl, hq160, hp155⟩
            refine ⟨_, rfl, ?_⟩
            have hok161 := hq160.ok hok142
            refine OPS.batch 1 { wraps := [56] } [] [6, 56] [.bool f137, .bool f156] .nil (by kernel_rfl) (fun b162 => ?_)
            refine OPS.nil ?_
            refine thn_n ?_
            refine WP.test (p := f156 = true) rfl Bp.var (fun h163 => ?_) (fun h163 => ?_)
            · refine WP.pure {} [] [6] [.bool true] .nil (by kernel_rfl) (fun b164 => ?_)
              refine thn_n ?_
              refine WP.seq ?_
              refine WP.pure {} [] [4, 5] [.bool true, .int .i64 0] .nil (by kernel_rfl) (fun b165 => ?_)
              refine thn_n ?_
              refine WP.ret ?_
              refine bodyQ.of _ rfl [.bool true, .int .i64 0] ⟨rfl, rfl, trivial⟩ ?_
              have hp166 := hp155.pull3
              have hp167 := hp166.pull3
              have hp168 := hp167.pull3
              have hp169 := hp168.pull3
              exact ⟨true, 0, T157, F139, D140, rfl, ⟨.inr ⟨by first | exact h15 | exact Classical.not_not.1 h15, rfl, f137, f156, T138, .inl ⟨by unfold comesU; have q0_ := h15; have q1_ := h23; have q2_ := h124; have q3_ := h127; have q4_ := h145; have q5_ := h163; first | grind | (simp_all; done), hq141⟩, .inl ⟨by unfold endsU; have q0_ := h15; have q1_ := h23; have q2_ := h124; have q3_ := h127; have q4_ := h145; have q5_ := h163; first | grind | (simp_all; done), hq160⟩, by have q0_ := h15; have q1_ := h23; have q2_ := h124; have q3_ := h127; have q4_ := h145; have q5_ := h163; first | (simp; done) | grind | (simp_all; done)⟩, hok161⟩, (hp169.sub (.cons_cons _ (.cons_cons _ (.cons_cons _ (.cons_cons _ (.cons _ (.refl _)))))))⟩
            · refine WP.skip ?_
              refine thn_n ?_
              refine WP.seq ?_
              refine WP.pure {} [] [4, 5] [.bool f137, .int .i64 0] .nil (by kernel_rfl) (fun b170 => ?_)
              refine thn_n ?_
              refine WP.ret ?_
              refine bodyQ.of _ rfl [.bool f137, .int .i64 0] ⟨rfl, rfl, trivial⟩ ?_
              have hp171 := hp155.pull3
              have hp172 := hp171.pull3
              have hp173 := hp172.pull3
              have hp174 := hp173.pull3
              exact ⟨f137, 0, T157, F139, D140, rfl, ⟨.inr ⟨by first | exact h15 | exact Classical.not_not.1 h15, rfl, f137, f156, T138, .inl ⟨by unfold comesU; have q0_ := h15; have q1_ := h23; have q2_ := h124; have q3_ := h127; have q4_ := h145; have q5_ := h163; first | grind | (simp_all; done), hq141⟩, .inl ⟨by unfold endsU; have q0_ := h15; have q1_ := h23; have q2_ := h124; have q3_ := h127; have q4_ := h145; have q5_ := h163; first | grind | (simp_all; done), hq160⟩, by have q0_ := h15; have q1_ := h23; have q2_ := h124; have q3_ := h127; have q4_ := h145; have q5_ := h163; first | (simp; done) | grind | (simp_all; done)⟩, hok161⟩, (hp174.sub (.cons_cons _ (.cons_cons _ (.cons_cons _ (.cons_cons _ (.cons _ (.refl _)))))))⟩
          · refine OPS.batch 0 {} [] [0, 3, 6, 38] [.pointer (some ⟨tb, 0, none⟩), .pointer (some ⟨g3, 0, none⟩), .bool f137, .bool (decide (u.Kind = 2))] .nil (by kernel_rfl) (fun b175 => ?_)
            refine OPS.re [.pointer (some ⟨tb, 0, none⟩), .pointer (some ⟨g3, 0, none⟩), .bool f137, .bool false] (by rw [show (decide (u.Kind = 2)) = false from Bp.dec.ff h145]) ?_
            refine OPS.batch 4 {} [.int .i64 u.Kind] [0, 3, 6, 38, 42] [.pointer (some ⟨tb, 0, none⟩), .pointer (some ⟨g3, 0, none⟩), .bool f137, .bool false, .bool (decide (u.Kind = 3))] (.cons (Ld.row1 (P := Try.prog) (t := 3) (o := 0) (v := .int .i64 u.Kind) hp136.get4 (by kernel_rfl)) .nil) (by kernel_rfl) (fun b176 => ?_)
            by_cases h177 : u.Kind = 3
            · refine OPS.batch 0 {} [] [0, 3, 6, 38, 42] [.pointer (some ⟨tb, 0, none⟩), .pointer (some ⟨g3, 0, none⟩), .bool f137, .bool false, .bool (decide (u.Kind = 3))] .nil (by kernel_rfl) (fun b178 => ?_)
              refine OPS.re [.pointer (some ⟨tb, 0, none⟩), .pointer (some ⟨g3, 0, none⟩), .bool f137, .bool false, .bool true] (by rw [show (decide (u.Kind = 3)) = true from Bp.dec.tt h177]) ?_
              refine OPS.batch 6 { wraps := [46, 47] } [.bool u.Entry.Fin] [0, 3, 6, 48] [.pointer (some ⟨tb, 0, none⟩), .pointer (some ⟨g3, 0, none⟩), .bool f137, .bool u.Entry.Fin] (.cons (Ld.row1 (P := Try.prog) (t := 4) (o := 4) (v := .bool u.Entry.Fin) hp136.get4 (by kernel_rfl)) .nil) (by kernel_rfl) (fun b179 => ?_)
              by_cases h180 : u.Entry.Fin = true
              · refine OPS.batch 0 {} [] [0, 3, 6, 48] [.pointer (some ⟨tb, 0, none⟩), .pointer (some ⟨g3, 0, none⟩), .bool f137, .bool u.Entry.Fin] .nil (by kernel_rfl) (fun b181 => ?_)
                refine OPS.re [.pointer (some ⟨tb, 0, none⟩), .pointer (some ⟨g3, 0, none⟩), .bool f137, .bool true] (by rw [show u.Entry.Fin = true from Bp.var.tt h180]) ?_
                refine OPS.batch 6 {} [.string u.Key, .agg #[.int .i64 u.Entry.Tag.Count, .int .i64 u.Entry.Tag.Client]] [6, 48, 49, 51, 54] [.bool f137, .bool true, .pointer (some ⟨tb, 0, none⟩), .string u.Key, .agg #[.int .i64 u.Entry.Tag.Count, .int .i64 u.Entry.Tag.Client]] (.cons (Ld.row1 (P := Try.prog) (t := 9) (o := 1) (v := .string u.Key) hp136.get4 (by kernel_rfl)) (.cons (show Ld Try.prog w135 31 ⟨g3, 2, none⟩ (.agg #[.int .i64 u.Entry.Tag.Count, .int .i64 u.Entry.Tag.Client]) from Ld.rowN (cs := [.int .i64 u.Entry.Tag.Count, .int .i64 u.Entry.Tag.Client]) hp136.get4 (by kernel_rfl)) .nil)) (by kernel_rfl) (fun b182 => ?_)
                refine OPS.want (by kernel_rfl) ?_
                have hp185 := hp136.pull3
                have hp186 := hp185.pull3
                have hp187 := hp186.pull3
                have hp188 := hp187.pull3
                refine OPS.cons (opStep.call (some 55) [.pointer (some ⟨tb, 0, none⟩), .string u.Key, .agg #[.int .i64 u.Entry.Tag.Count, .int .i64 u.Entry.Tag.Client]] (by kernel_rfl) (fin_c w0 _ _ tb m dl T138 F139 D140 u.Key u.Entry.Tag hdl hp188 (n + 1) hok142 (by omega)) ?_)
                rintro _ w189 ⟨f191, T192, rfl, hq195, hp190⟩
                refine ⟨_, rfl, ?_⟩
                have hok196 := hq195.ok hok142
                refine OPS.batch 1 { wraps := [56] } [] [6, 56] [.bool f137, .bool f191] .nil (by kernel_rfl) (fun b197 => ?_)
                refine OPS.nil ?_
                refine thn_n ?_
                refine WP.test (p := f191 = true) rfl Bp.var (fun h198 => ?_) (fun h198 => ?_)
                · refine WP.pure {} [] [6] [.bool true] .nil (by kernel_rfl) (fun b199 => ?_)
                  refine thn_n ?_
                  refine WP.seq ?_
                  refine WP.pure {} [] [4, 5] [.bool true, .int .i64 0] .nil (by kernel_rfl) (fun b200 => ?_)
                  refine thn_n ?_
                  refine WP.ret ?_
                  refine bodyQ.of _ rfl [.bool true, .int .i64 0] ⟨rfl, rfl, trivial⟩ ?_
                  have hp201 := hp190.pull3
                  have hp202 := hp201.pull3
                  have hp203 := hp202.pull3
                  have hp204 := hp203.pull3
                  exact ⟨true, 0, T192, F139, D140, rfl, ⟨.inr ⟨by first | exact h15 | exact Classical.not_not.1 h15, rfl, f137, f191, T138, .inl ⟨by unfold comesU; have q0_ := h15; have q1_ := h23; have q2_ := h124; have q3_ := h127; have q4_ := h145; have q5_ := h177; have q6_ := h180; have q7_ := h198; first | grind | (simp_all; done), hq141⟩, .inl ⟨by unfold endsU; have q0_ := h15; have q1_ := h23; have q2_ := h124; have q3_ := h127; have q4_ := h145; have q5_ := h177; have q6_ := h180; have q7_ := h198; first | grind | (simp_all; done), hq195⟩, by have q0_ := h15; have q1_ := h23; have q2_ := h124; have q3_ := h127; have q4_ := h145; have q5_ := h177; have q6_ := h180; have q7_ := h198; first | (simp; done) | grind | (simp_all; done)⟩, hok196⟩, (hp204.sub (.cons_cons _ (.cons_cons _ (.cons_cons _ (.cons_cons _ (.cons _ (.refl _)))))))⟩
                · refine WP.skip ?_
                  refine thn_n ?_
                  refine WP.seq ?_
                  refine WP.pure {} [] [4, 5] [.bool f137, .int .i64 0] .nil (by kernel_rfl) (fun b205 => ?_)
                  refine thn_n ?_
                  refine WP.ret ?_
                  refine bodyQ.of _ rfl [.bool f137, .int .i64 0] ⟨rfl, rfl, trivial⟩ ?_
                  have hp206 := hp190.pull3
                  have hp207 := hp206.pull3
                  have hp208 := hp207.pull3
                  have hp209 := hp208.pull3
                  exact ⟨f137, 0, T192, F139, D140, rfl, ⟨.inr ⟨by first | exact h15 | exact Classical.not_not.1 h15, rfl, f137, f191, T138, .inl ⟨by unfold comesU; have q0_ := h15; have q1_ := h23; have q2_ := h124; have q3_ := h127; have q4_ := h145; have q5_ := h177; have q6_ := h180; have q7_ := h198; first | grind | (simp_all; done), hq141⟩, .inl ⟨by unfold endsU; have q0_ := h15; have q1_ := h23; have q2_ := h124; have q3_ := h127; have q4_ := h145; have q5_ := h177; have q6_ := h180; have q7_ := h198; first | grind | (simp_all; done), hq195⟩, by have q0_ := h15; have q1_ := h23; have q2_ := h124; have q3_ := h127; have q4_ := h145; have q5_ := h177; have q6_ := h180; have q7_ := h198; first | (simp; done) | grind | (simp_all; done)⟩, hok196⟩, (hp209.sub (.cons_cons _ (.cons_cons _ (.cons_cons _ (.cons_cons _ (.cons _ (.refl _)))))))⟩
              · refine OPS.batch 0 {} [] [0, 3, 6, 48] [.pointer (some ⟨tb, 0, none⟩), .pointer (some ⟨g3, 0, none⟩), .bool f137, .bool u.Entry.Fin] .nil (by kernel_rfl) (fun b210 => ?_)
                refine OPS.re [.pointer (some ⟨tb, 0, none⟩), .pointer (some ⟨g3, 0, none⟩), .bool f137, .bool false] (by rw [show u.Entry.Fin = false from Bp.var.ff h180]) ?_
                refine OPS.batch 8 { wraps := [56] } [] [6, 56] [.bool f137, .bool false] .nil (by kernel_rfl) (fun b211 => ?_)
                refine OPS.nil ?_
                refine thn_n ?_
                refine WP.condF rfl ?_
                refine WP.skip ?_
                refine thn_n ?_
                refine WP.seq ?_
                refine WP.pure {} [] [4, 5] [.bool f137, .int .i64 0] .nil (by kernel_rfl) (fun b212 => ?_)
                refine thn_n ?_
                refine WP.ret ?_
                refine bodyQ.of _ rfl [.bool f137, .int .i64 0] ⟨rfl, rfl, trivial⟩ ?_
                have hp213 := hp136.pull3
                have hp214 := hp213.pull3
                have hp215 := hp214.pull3
                have hp216 := hp215.pull3
                exact ⟨f137, 0, T138, F139, D140, rfl, ⟨.inr ⟨by first | exact h15 | exact Classical.not_not.1 h15, rfl, f137, false, T138, .inl ⟨by unfold comesU; have q0_ := h15; have q1_ := h23; have q2_ := h124; have q3_ := h127; have q4_ := h145; have q5_ := h177; have q6_ := h180; first | grind | (simp_all; done), hq141⟩, .inr ⟨by unfold endsU; have q0_ := h15; have q1_ := h23; have q2_ := h124; have q3_ := h127; have q4_ := h145; have q5_ := h177; have q6_ := h180; first | grind | (simp_all; done), rfl, rfl⟩, by have q0_ := h15; have q1_ := h23; have q2_ := h124; have q3_ := h127; have q4_ := h145; have q5_ := h177; have q6_ := h180; first | (simp; done) | grind | (simp_all; done)⟩, hok142.more⟩, (hp216.sub (.cons_cons _ (.cons_cons _ (.cons_cons _ (.cons_cons _ (.cons _ (.refl _)))))))⟩
            · refine OPS.batch 0 {} [] [0, 3, 6, 38, 42] [.pointer (some ⟨tb, 0, none⟩), .pointer (some ⟨g3, 0, none⟩), .bool f137, .bool false, .bool (decide (u.Kind = 3))] .nil (by kernel_rfl) (fun b217 => ?_)
              refine OPS.re [.pointer (some ⟨tb, 0, none⟩), .pointer (some ⟨g3, 0, none⟩), .bool f137, .bool false, .bool false] (by rw [show (decide (u.Kind = 3)) = false from Bp.dec.ff h177]) ?_
              refine OPS.batch 14 { wraps := [46, 47, 56] } [] [6, 56] [.bool f137, .bool false] .nil (by kernel_rfl) (fun b218 => ?_)
              refine OPS.nil ?_
              refine thn_n ?_
              refine WP.condF rfl ?_
              refine WP.skip ?_
              refine thn_n ?_
              refine WP.seq ?_
              refine WP.pure {} [] [4, 5] [.bool f137, .int .i64 0] .nil (by kernel_rfl) (fun b219 => ?_)
              refine thn_n ?_
              refine WP.ret ?_
              refine bodyQ.of _ rfl [.bool f137, .int .i64 0] ⟨rfl, rfl, trivial⟩ ?_
              have hp220 := hp136.pull3
              have hp221 := hp220.pull3
              have hp222 := hp221.pull3
              have hp223 := hp222.pull3
              exact ⟨f137, 0, T138, F139, D140, rfl, ⟨.inr ⟨by first | exact h15 | exact Classical.not_not.1 h15, rfl, f137, false, T138, .inl ⟨by unfold comesU; have q0_ := h15; have q1_ := h23; have q2_ := h124; have q3_ := h127; have q4_ := h145; have q5_ := h177; first | grind | (simp_all; done), hq141⟩, .inr ⟨by unfold endsU; have q0_ := h15; have q1_ := h23; have q2_ := h124; have q3_ := h127; have q4_ := h145; have q5_ := h177; first | grind | (simp_all; done), rfl, rfl⟩, by have q0_ := h15; have q1_ := h23; have q2_ := h124; have q3_ := h127; have q4_ := h145; have q5_ := h177; first | (simp; done) | grind | (simp_all; done)⟩, hok142.more⟩, (hp223.sub (.cons_cons _ (.cons_cons _ (.cons_cons _ (.cons_cons _ (.cons _ (.refl _)))))))⟩
        · refine WP.skip ?_
          refine thn_n ?_
          refine WP.seq ?_
          refine WP.seq ?_
          refine WP.region _ rfl (by kernel_rfl) ?_
          refine OPS.batch 4 {} [.int .i64 u.Kind] [0, 3, 6, 38] [.pointer (some ⟨tb, 0, none⟩), .pointer (some ⟨g3, 0, none⟩), .bool false, .bool (decide (u.Kind = 2))] (.cons (Ld.row1 (P := Try.prog) (t := 3) (o := 0) (v := .int .i64 u.Kind) hp11.get0 (by kernel_rfl)) .nil) (by kernel_rfl) (fun b224 => ?_)
          by_cases h225 : u.Kind = 2
          · refine OPS.batch 0 {} [] [0, 3, 6, 38] [.pointer (some ⟨tb, 0, none⟩), .pointer (some ⟨g3, 0, none⟩), .bool false, .bool (decide (u.Kind = 2))] .nil (by kernel_rfl) (fun b226 => ?_)
            refine OPS.re [.pointer (some ⟨tb, 0, none⟩), .pointer (some ⟨g3, 0, none⟩), .bool false, .bool true] (by rw [show (decide (u.Kind = 2)) = true from Bp.dec.tt h225]) ?_
            refine OPS.batch 16 { wraps := [47] } [.string u.Key, .agg #[.int .i64 u.Entry.Tag.Count, .int .i64 u.Entry.Tag.Client]] [6, 48, 49, 51, 54] [.bool false, .bool true, .pointer (some ⟨tb, 0, none⟩), .string u.Key, .agg #[.int .i64 u.Entry.Tag.Count, .int .i64 u.Entry.Tag.Client]] (.cons (Ld.row1 (P := Try.prog) (t := 9) (o := 1) (v := .string u.Key) hp11.get0 (by kernel_rfl)) (.cons (show Ld Try.prog w9 31 ⟨g3, 2, none⟩ (.agg #[.int .i64 u.Entry.Tag.Count, .int .i64 u.Entry.Tag.Client]) from Ld.rowN (cs := [.int .i64 u.Entry.Tag.Count, .int .i64 u.Entry.Tag.Client]) hp11.get0 (by kernel_rfl)) .nil)) (by kernel_rfl) (fun b227 => ?_)
            refine OPS.want (by kernel_rfl) ?_
            have hp230 := hp11.pull4
            have hp231 := hp230.pull4
            have hp232 := hp231.pull4
            have hp233 := hp232.pull4
            refine OPS.cons (opStep.call (some 55) [.pointer (some ⟨tb, 0, none⟩), .string u.Key, .agg #[.int .i64 u.Entry.Tag.Count, .int .i64 u.Entry.Tag.Client]] (by kernel_rfl) (fin_c w0 _ _ tb m dl T F D u.Key u.Entry.Tag hdl hp233 n hok (by omega)) ?_)
            rintro _ w234 ⟨f236, T237, rfl, hq240, hp235⟩
            refine ⟨_, rfl, ?_⟩
            have hok241 := hq240.ok hok
            refine OPS.batch 1 { wraps := [56] } [] [6, 56] [.bool false, .bool f236] .nil (by kernel_rfl) (fun b242 => ?_)
            refine OPS.nil ?_
            refine thn_n ?_
            refine WP.test (p := f236 = true) rfl Bp.var (fun h243 => ?_) (fun h243 => ?_)
            · refine WP.pure {} [] [6] [.bool true] .nil (by kernel_rfl) (fun b244 => ?_)
              refine thn_n ?_
              refine WP.seq ?_
              refine WP.pure {} [] [4, 5] [.bool true, .int .i64 0] .nil (by kernel_rfl) (fun b245 => ?_)
              refine thn_n ?_
              refine WP.ret ?_
              refine bodyQ.of _ rfl [.bool true, .int .i64 0] ⟨rfl, rfl, trivial⟩ ?_
              have hp246 := hp235.pull3
              have hp247 := hp246.pull3
              have hp248 := hp247.pull3
              have hp249 := hp248.pull3
              exact ⟨true, 0, T237, F, D, rfl, ⟨.inr ⟨by first | exact h15 | exact Classical.not_not.1 h15, rfl, false, f236, T, .inr ⟨by unfold comesU; have q0_ := h15; have q1_ := h23; have q2_ := h124; have q3_ := h127; have q4_ := h225; have q5_ := h243; first | grind | (simp_all; done), rfl, rfl, rfl⟩, .inl ⟨by unfold endsU; have q0_ := h15; have q1_ := h23; have q2_ := h124; have q3_ := h127; have q4_ := h225; have q5_ := h243; first | grind | (simp_all; done), hq240⟩, by have q0_ := h15; have q1_ := h23; have q2_ := h124; have q3_ := h127; have q4_ := h225; have q5_ := h243; first | (simp; done) | grind | (simp_all; done)⟩, hok241.more⟩, (hp249.sub (.cons_cons _ (.cons_cons _ (.cons_cons _ (.cons_cons _ (.cons _ (.refl _)))))))⟩
            · refine WP.skip ?_
              refine thn_n ?_
              refine WP.seq ?_
              refine WP.pure {} [] [4, 5] [.bool false, .int .i64 0] .nil (by kernel_rfl) (fun b250 => ?_)
              refine thn_n ?_
              refine WP.ret ?_
              refine bodyQ.of _ rfl [.bool false, .int .i64 0] ⟨rfl, rfl, trivial⟩ ?_
              have hp251 := hp235.pull3
              have hp252 := hp251.pull3
              have hp253 := hp252.pull3
              have hp254 := hp253.pull3
              exact ⟨false, 0, T237, F, D, rfl, ⟨.inr ⟨by first | exact h15 | exact Classical.not_not.1 h15, rfl, false, f236, T, .inr ⟨by unfold comesU; have q0_ := h15; have q1_ := h23; have q2_ := h124; have q3_ := h127; have q4_ := h225; have q5_ := h243; first | grind | (simp_all; done), rfl, rfl, rfl⟩, .inl ⟨by unfold endsU; have q0_ := h15; have q1_ := h23; have q2_ := h124; have q3_ := h127; have q4_ := h225; have q5_ := h243; first | grind | (simp_all; done), hq240⟩, by have q0_ := h15; have q1_ := h23; have q2_ := h124; have q3_ := h127; have q4_ := h225; have q5_ := h243; first | (simp; done) | grind | (simp_all; done)⟩, hok241.more⟩, (hp254.sub (.cons_cons _ (.cons_cons _ (.cons_cons _ (.cons_cons _ (.cons _ (.refl _)))))))⟩
          · refine OPS.batch 0 {} [] [0, 3, 6, 38] [.pointer (some ⟨tb, 0, none⟩), .pointer (some ⟨g3, 0, none⟩), .bool false, .bool (decide (u.Kind = 2))] .nil (by kernel_rfl) (fun b255 => ?_)
            refine OPS.re [.pointer (some ⟨tb, 0, none⟩), .pointer (some ⟨g3, 0, none⟩), .bool false, .bool false] (by rw [show (decide (u.Kind = 2)) = false from Bp.dec.ff h225]) ?_
            refine OPS.batch 4 {} [.int .i64 u.Kind] [0, 3, 6, 38, 42] [.pointer (some ⟨tb, 0, none⟩), .pointer (some ⟨g3, 0, none⟩), .bool false, .bool false, .bool (decide (u.Kind = 3))] (.cons (Ld.row1 (P := Try.prog) (t := 3) (o := 0) (v := .int .i64 u.Kind) hp11.get0 (by kernel_rfl)) .nil) (by kernel_rfl) (fun b256 => ?_)
            by_cases h257 : u.Kind = 3
            · refine OPS.batch 0 {} [] [0, 3, 6, 38, 42] [.pointer (some ⟨tb, 0, none⟩), .pointer (some ⟨g3, 0, none⟩), .bool false, .bool false, .bool (decide (u.Kind = 3))] .nil (by kernel_rfl) (fun b258 => ?_)
              refine OPS.re [.pointer (some ⟨tb, 0, none⟩), .pointer (some ⟨g3, 0, none⟩), .bool false, .bool false, .bool true] (by rw [show (decide (u.Kind = 3)) = true from Bp.dec.tt h257]) ?_
              refine OPS.batch 6 { wraps := [46, 47] } [.bool u.Entry.Fin] [0, 3, 6, 48] [.pointer (some ⟨tb, 0, none⟩), .pointer (some ⟨g3, 0, none⟩), .bool false, .bool u.Entry.Fin] (.cons (Ld.row1 (P := Try.prog) (t := 4) (o := 4) (v := .bool u.Entry.Fin) hp11.get0 (by kernel_rfl)) .nil) (by kernel_rfl) (fun b259 => ?_)
              by_cases h260 : u.Entry.Fin = true
              · refine OPS.batch 0 {} [] [0, 3, 6, 48] [.pointer (some ⟨tb, 0, none⟩), .pointer (some ⟨g3, 0, none⟩), .bool false, .bool u.Entry.Fin] .nil (by kernel_rfl) (fun b261 => ?_)
                refine OPS.re [.pointer (some ⟨tb, 0, none⟩), .pointer (some ⟨g3, 0, none⟩), .bool false, .bool true] (by rw [show u.Entry.Fin = true from Bp.var.tt h260]) ?_
                refine OPS.batch 6 {} [.string u.Key, .agg #[.int .i64 u.Entry.Tag.Count, .int .i64 u.Entry.Tag.Client]] [6, 48, 49, 51, 54] [.bool false, .bool true, .pointer (some ⟨tb, 0, none⟩), .string u.Key, .agg #[.int .i64 u.Entry.Tag.Count, .int .i64 u.Entry.Tag.Client]] (.cons (Ld.row1 (P := Try.prog) (t := 9) (o := 1) (v := .string u.Key) hp11.get0 (by kernel_rfl)) (.cons (show Ld Try.prog w9 31 ⟨g3, 2, none⟩ (.agg #[.int .i64 u.Entry.Tag.Count, .int .i64 u.Entry.Tag.Client]) from Ld.rowN (cs := [.int .i64 u.Entry.Tag.Count, .int .i64 u.Entry.Tag.Client]) hp11.get0 (by kernel_rfl)) .nil)) (by kernel_rfl) (fun b262 => ?_)
                refine OPS.want (by kernel_rfl) ?_
                have hp265 := hp11.pull4
                have hp266 := hp265.pull4
                have hp267 := hp266.pull4
                have hp268 := hp267.pull4
                refine OPS.cons (opStep.call (some 55) [.pointer (some ⟨tb, 0, none⟩), .string u.Key, .agg #[.int .i64 u.Entry.Tag.Count, .int .i64 u.Entry.Tag.Client]] (by kernel_rfl) (fin_c w0 _ _ tb m dl T F D u.Key u.Entry.Tag hdl hp268 n hok (by omega)) ?_)
                rintro _ w269 ⟨f271, T272, rfl, hq275, hp270⟩
                refine ⟨_, rfl, ?_⟩
                have hok276 := hq275.ok hok
                refine OPS.batch 1 { wraps := [56] } [] [6, 56] [.bool false, .bool f271] .nil (by kernel_rfl) (fun b277 => ?_)
                refine OPS.nil ?_
                refine thn_n ?_
                refine WP.test (p := f271 = true) rfl Bp.var (fun h278 => ?_) (fun h278 => ?_)
                · refine WP.pure {} [] [6] [.bool true] .nil (by kernel_rfl) (fun b279 => ?_)
                  refine thn_n ?_
                  refine WP.seq ?_
                  refine WP.pure {} [] [4, 5] [.bool true, .int .i64 0] .nil (by kernel_rfl) (fun b280 => ?_)
                  refine thn_n ?_
                  refine WP.ret ?_
                  refine bodyQ.of _ rfl [.bool true, .int .i64 0] ⟨rfl, rfl, trivial⟩ ?_
                  have hp281 := hp270.pull3
                  have hp282 := hp281.pull3
                  have hp283 := hp282.pull3
                  have hp284 := hp283.pull3
                  exact ⟨true, 0, T272, F, D, rfl, ⟨.inr ⟨by first | exact h15 | exact Classical.not_not.1 h15, rfl, false, f271, T, .inr ⟨by unfold comesU; have q0_ := h15; have q1_ := h23; have q2_ := h124; have q3_ := h127; have q4_ := h225; have q5_ := h257; have q6_ := h260; have q7_ := h278; first | grind | (simp_all; done), rfl, rfl, rfl⟩, .inl ⟨by unfold endsU; have q0_ := h15; have q1_ := h23; have q2_ := h124; have q3_ := h127; have q4_ := h225; have q5_ := h257; have q6_ := h260; have q7_ := h278; first | grind | (simp_all; done), hq275⟩, by have q0_ := h15; have q1_ := h23; have q2_ := h124; have q3_ := h127; have q4_ := h225; have q5_ := h257; have q6_ := h260; have q7_ := h278; first | (simp; done) | grind | (simp_all; done)⟩, hok276.more⟩, (hp284.sub (.cons_cons _ (.cons_cons _ (.cons_cons _ (.cons_cons _ (.cons _ (.refl _)))))))⟩
                · refine WP.skip ?_
                  refine thn_n ?_
                  refine WP.seq ?_
                  refine WP.pure {} [] [4, 5] [.bool false, .int .i64 0] .nil (by kernel_rfl) (fun b285 => ?_)
                  refine thn_n ?_
                  refine WP.ret ?_
                  refine bodyQ.of _ rfl [.bool false, .int .i64 0] ⟨rfl, rfl, trivial⟩ ?_
                  have hp286 := hp270.pull3
                  have hp287 := hp286.pull3
                  have hp288 := hp287.pull3
                  have hp289 := hp288.pull3
                  exact ⟨false, 0, T272, F, D, rfl, ⟨.inr ⟨by first | exact h15 | exact Classical.not_not.1 h15, rfl, false, f271, T, .inr ⟨by unfold comesU; have q0_ := h15; have q1_ := h23; have q2_ := h124; have q3_ := h127; have q4_ := h225; have q5_ := h257; have q6_ := h260; have q7_ := h278; first | grind | (simp_all; done), rfl, rfl, rfl⟩, .inl ⟨by unfold endsU; have q0_ := h15; have q1_ := h23; have q2_ := h124; have q3_ := h127; have q4_ := h225; have q5_ := h257; have q6_ := h260; have q7_ := h278; first | grind | (simp_all; done), hq275⟩, by have q0_ := h15; have q1_ := h23; have q2_ := h124; have q3_ := h127; have q4_ := h225; have q5_ := h257; have q6_ := h260; have q7_ := h278; first | (simp; done) | grind | (simp_all; done)⟩, hok276.more⟩, (hp289.sub (.cons_cons _ (.cons_cons _ (.cons_cons _ (.cons_cons _ (.cons _ (.refl _)))))))⟩
              · refine OPS.batch 0 {} [] [0, 3, 6, 48] [.pointer (some ⟨tb, 0, none⟩), .pointer (some ⟨g3, 0, none⟩), .bool false, .bool u.Entry.Fin] .nil (by kernel_rfl) (fun b290 => ?_)
                refine OPS.re [.pointer (some ⟨tb, 0, none⟩), .pointer (some ⟨g3, 0, none⟩), .bool false, .bool false] (by rw [show u.Entry.Fin = false from Bp.var.ff h260]) ?_
                refine OPS.batch 8 { wraps := [56] } [] [6, 56] [.bool false, .bool false] .nil (by kernel_rfl) (fun b291 => ?_)
                refine OPS.nil ?_
                refine thn_n ?_
                refine WP.condF rfl ?_
                refine WP.skip ?_
                refine thn_n ?_
                refine WP.seq ?_
                refine WP.pure {} [] [4, 5] [.bool false, .int .i64 0] .nil (by kernel_rfl) (fun b292 => ?_)
                refine thn_n ?_
                refine WP.ret ?_
                refine bodyQ.of _ rfl [.bool false, .int .i64 0] ⟨rfl, rfl, trivial⟩ ?_
                have hp293 := hp11.pull4
                have hp294 := hp293.pull4
                have hp295 := hp294.pull4
                have hp296 := hp295.pull4
                exact ⟨false, 0, T, F, D, rfl, ⟨.inr ⟨by first | exact h15 | exact Classical.not_not.1 h15, rfl, false, false, T, .inr ⟨by unfold comesU; have q0_ := h15; have q1_ := h23; have q2_ := h124; have q3_ := h127; have q4_ := h225; have q5_ := h257; have q6_ := h260; first | grind | (simp_all; done), rfl, rfl, rfl⟩, .inr ⟨by unfold endsU; have q0_ := h15; have q1_ := h23; have q2_ := h124; have q3_ := h127; have q4_ := h225; have q5_ := h257; have q6_ := h260; first | grind | (simp_all; done), rfl, rfl⟩, by have q0_ := h15; have q1_ := h23; have q2_ := h124; have q3_ := h127; have q4_ := h225; have q5_ := h257; have q6_ := h260; first | (simp; done) | grind | (simp_all; done)⟩, hok.more.more⟩, (hp296.sub (.cons_cons _ (.cons_cons _ (.cons_cons _ (.cons_cons _ (.cons _ (.refl _)))))))⟩
            · refine OPS.batch 0 {} [] [0, 3, 6, 38, 42] [.pointer (some ⟨tb, 0, none⟩), .pointer (some ⟨g3, 0, none⟩), .bool false, .bool false, .bool (decide (u.Kind = 3))] .nil (by kernel_rfl) (fun b297 => ?_)
              refine OPS.re [.pointer (some ⟨tb, 0, none⟩), .pointer (some ⟨g3, 0, none⟩), .bool false, .bool false, .bool false] (by rw [show (decide (u.Kind = 3)) = false from Bp.dec.ff h257]) ?_
              refine OPS.batch 14 { wraps := [46, 47, 56] } [] [6, 56] [.bool false, .bool false] .nil (by kernel_rfl) (fun b298 => ?_)
              refine OPS.nil ?_
              refine thn_n ?_
              refine WP.condF rfl ?_
              refine WP.skip ?_
              refine thn_n ?_
              refine WP.seq ?_
              refine WP.pure {} [] [4, 5] [.bool false, .int .i64 0] .nil (by kernel_rfl) (fun b299 => ?_)
              refine thn_n ?_
              refine WP.ret ?_
              refine bodyQ.of _ rfl [.bool false, .int .i64 0] ⟨rfl, rfl, trivial⟩ ?_
              have hp300 := hp11.pull4
              have hp301 := hp300.pull4
              have hp302 := hp301.pull4
              have hp303 := hp302.pull4
              exact ⟨false, 0, T, F, D, rfl, ⟨.inr ⟨by first | exact h15 | exact Classical.not_not.1 h15, rfl, false, false, T, .inr ⟨by unfold comesU; have q0_ := h15; have q1_ := h23; have q2_ := h124; have q3_ := h127; have q4_ := h225; have q5_ := h257; first | grind | (simp_all; done), rfl, rfl, rfl⟩, .inr ⟨by unfold endsU; have q0_ := h15; have q1_ := h23; have q2_ := h124; have q3_ := h127; have q4_ := h225; have q5_ := h257; first | grind | (simp_all; done), rfl, rfl⟩, by have q0_ := h15; have q1_ := h23; have q2_ := h124; have q3_ := h127; have q4_ := h225; have q5_ := h257; first | (simp; done) | grind | (simp_all; done)⟩, hok.more.more⟩, (hp303.sub (.cons_cons _ (.cons_cons _ (.cons_cons _ (.cons_cons _ (.cons _ (.refl _)))))))⟩
      · refine OPS.batch 0 {} [] [0, 3, 6, 15, 19] [.pointer (some ⟨tb, 0, none⟩), .pointer (some ⟨g3, 0, none⟩), .bool false, .bool false, .bool (decide (u.Kind = 3))] .nil (by kernel_rfl) (fun b304 => ?_)
        refine OPS.re [.pointer (some ⟨tb, 0, none⟩), .pointer (some ⟨g3, 0, none⟩), .bool false, .bool false, .bool false] (by rw [show (decide (u.Kind = 3)) = false from Bp.dec.ff h124]) ?_
        refine OPS.batch 5 { wraps := [23, 24] } [] [0, 3, 6, 24] [.pointer (some ⟨tb, 0, none⟩), .pointer (some ⟨g3, 0, none⟩), .bool false, .bool false] .nil (by kernel_rfl) (fun b305 => ?_)
        refine OPS.nil ?_
        refine thn_n ?_
        refine WP.condF rfl ?_
        refine WP.skip ?_
        refine thn_n ?_
        refine WP.seq ?_
        refine WP.seq ?_
        refine WP.region _ rfl (by kernel_rfl) ?_
        refine OPS.batch 4 {} [.int .i64 u.Kind] [0, 3, 6, 38] [.pointer (some ⟨tb, 0, none⟩), .pointer (some ⟨g3, 0, none⟩), .bool false, .bool (decide (u.Kind = 2))] (.cons (Ld.row1 (P := Try.prog) (t := 3) (o := 0) (v := .int .i64 u.Kind) hp11.get0 (by kernel_rfl)) .nil) (by kernel_rfl) (fun b306 => ?_)
        by_cases h307 : u.Kind = 2
        · refine OPS.batch 0 {} [] [0, 3, 6, 38] [.pointer (some ⟨tb, 0, none⟩), .pointer (some ⟨g3, 0, none⟩), .bool false, .bool (decide (u.Kind = 2))] .nil (by kernel_rfl) (fun b308 => ?_)
          refine OPS.re [.pointer (some ⟨tb, 0, none⟩), .pointer (some ⟨g3, 0, none⟩), .bool false, .bool true] (by rw [show (decide (u.Kind = 2)) = true from Bp.dec.tt h307]) ?_
          refine OPS.batch 16 { wraps := [47] } [.string u.Key, .agg #[.int .i64 u.Entry.Tag.Count, .int .i64 u.Entry.Tag.Client]] [6, 48, 49, 51, 54] [.bool false, .bool true, .pointer (some ⟨tb, 0, none⟩), .string u.Key, .agg #[.int .i64 u.Entry.Tag.Count, .int .i64 u.Entry.Tag.Client]] (.cons (Ld.row1 (P := Try.prog) (t := 9) (o := 1) (v := .string u.Key) hp11.get0 (by kernel_rfl)) (.cons (show Ld Try.prog w9 31 ⟨g3, 2, none⟩ (.agg #[.int .i64 u.Entry.Tag.Count, .int .i64 u.Entry.Tag.Client]) from Ld.rowN (cs := [.int .i64 u.Entry.Tag.Count, .int .i64 u.Entry.Tag.Client]) hp11.get0 (by kernel_rfl)) .nil)) (by kernel_rfl) (fun b309 => ?_)
          refine OPS.want (by kernel_rfl) ?_
          have hp312 := hp11.pull4
          have hp313 := hp312.pull4
          have hp314 := hp313.pull4
          have hp315 := hp314.pull4
          refine OPS.cons (opStep.call (some 55) [.pointer (some ⟨tb, 0, none⟩), .string u.Key, .agg #[.int .i64 u.Entry.Tag.Count, .int .i64 u.Entry.Tag.Client]] (by kernel_rfl) (fin_c w0 _ _ tb m dl T F D u.Key u.Entry.Tag hdl hp315 n hok (by omega)) ?_)
          rintro _ w316 ⟨f318, T319, rfl, hq322, hp317⟩
          refine ⟨_, rfl, ?_⟩
          have hok323 := hq322.ok hok
          refine OPS.batch 1 { wraps := [56] } [] [6, 56] [.bool false, .bool f318] .nil (by kernel_rfl) (fun b324 => ?_)
          refine OPS.nil ?_
          refine thn_n ?_
          refine WP.test (p := f318 = true) rfl Bp.var (fun h325 => ?_) (fun h325 => ?_)
          · refine WP.pure {} [] [6] [.bool true] .nil (by kernel_rfl) (fun b326 => ?_)
            refine thn_n ?_
            refine WP.seq ?_
            refine WP.pure {} [] [4, 5] [.bool true, .int .i64 0] .nil (by kernel_rfl) (fun b327 => ?_)
            refine thn_n ?_
            refine WP.ret ?_
            refine bodyQ.of _ rfl [.bool true, .int .i64 0] ⟨rfl, rfl, trivial⟩ ?_
            have hp328 := hp317.pull3
            have hp329 := hp328.pull3
            have hp330 := hp329.pull3
            have hp331 := hp330.pull3
            exact ⟨true, 0, T319, F, D, rfl, ⟨.inr ⟨by first | exact h15 | exact Classical.not_not.1 h15, rfl, false, f318, T, .inr ⟨by unfold comesU; have q0_ := h15; have q1_ := h23; have q2_ := h124; have q3_ := h307; have q4_ := h325; first | grind | (simp_all; done), rfl, rfl, rfl⟩, .inl ⟨by unfold endsU; have q0_ := h15; have q1_ := h23; have q2_ := h124; have q3_ := h307; have q4_ := h325; first | grind | (simp_all; done), hq322⟩, by have q0_ := h15; have q1_ := h23; have q2_ := h124; have q3_ := h307; have q4_ := h325; first | (simp; done) | grind | (simp_all; done)⟩, hok323.more⟩, (hp331.sub (.cons_cons _ (.cons_cons _ (.cons_cons _ (.cons_cons _ (.cons _ (.refl _)))))))⟩
          · refine WP.skip ?_
            refine thn_n ?_
            refine WP.seq ?_
            refine WP.pure {} [] [4, 5] [.bool false, .int .i64 0] .nil (by kernel_rfl) (fun b332 => ?_)
            refine thn_n ?_
            refine WP.ret ?_
            refine bodyQ.of _ rfl [.bool false, .int .i64 0] ⟨rfl, rfl, trivial⟩ ?_
            have hp333 := hp317.pull3
            have hp334 := hp333.pull3
            have hp335 := hp334.pull3
            have hp336 := hp335.pull3
            exact ⟨false, 0, T319, F, D, rfl, ⟨.inr ⟨by first | exact h15 | exact Classical.not_not.1 h15, rfl, false, f318, T, .inr ⟨by unfold comesU; have q0_ := h15; have q1_ := h23; have q2_ := h124; have q3_ := h307; have q4_ := h325; first | grind | (simp_all; done), rfl, rfl, rfl⟩, .inl ⟨by unfold endsU; have q0_ := h15; have q1_ := h23; have q2_ := h124; have q3_ := h307; have q4_ := h325; first | grind | (simp_all; done), hq322⟩, by have q0_ := h15; have q1_ := h23; have q2_ := h124; have q3_ := h307; have q4_ := h325; first | (simp; done) | grind | (simp_all; done)⟩, hok323.more⟩, (hp336.sub (.cons_cons _ (.cons_cons _ (.cons_cons _ (.cons_cons _ (.cons _ (.refl _)))))))⟩
        · refine OPS.batch 0 {} [] [0, 3, 6, 38] [.pointer (some ⟨tb, 0, none⟩), .pointer (some ⟨g3, 0, none⟩), .bool false, .bool (decide (u.Kind = 2))] .nil (by kernel_rfl) (fun b337 => ?_)
          refine OPS.re [.pointer (some ⟨tb, 0, none⟩), .pointer (some ⟨g3, 0, none⟩), .bool false, .bool false] (by rw [show (decide (u.Kind = 2)) = false from Bp.dec.ff h307]) ?_
          refine OPS.batch 4 {} [.int .i64 u.Kind] [0, 3, 6, 38, 42] [.pointer (some ⟨tb, 0, none⟩), .pointer (some ⟨g3, 0, none⟩), .bool false, .bool false, .bool (decide (u.Kind = 3))] (.cons (Ld.row1 (P := Try.prog) (t := 3) (o := 0) (v := .int .i64 u.Kind) hp11.get0 (by kernel_rfl)) .nil) (by kernel_rfl) (fun b338 => ?_)
          by_cases h339 : u.Kind = 3
          · refine OPS.batch 0 {} [] [0, 3, 6, 38, 42] [.pointer (some ⟨tb, 0, none⟩), .pointer (some ⟨g3, 0, none⟩), .bool false, .bool false, .bool (decide (u.Kind = 3))] .nil (by kernel_rfl) (fun b340 => ?_)
            refine OPS.re [.pointer (some ⟨tb, 0, none⟩), .pointer (some ⟨g3, 0, none⟩), .bool false, .bool false, .bool true] (by rw [show (decide (u.Kind = 3)) = true from Bp.dec.tt h339]) ?_
            refine OPS.batch 6 { wraps := [46, 47] } [.bool u.Entry.Fin] [0, 3, 6, 48] [.pointer (some ⟨tb, 0, none⟩), .pointer (some ⟨g3, 0, none⟩), .bool false, .bool u.Entry.Fin] (.cons (Ld.row1 (P := Try.prog) (t := 4) (o := 4) (v := .bool u.Entry.Fin) hp11.get0 (by kernel_rfl)) .nil) (by kernel_rfl) (fun b341 => ?_)
            by_cases h342 : u.Entry.Fin = true
            · refine OPS.batch 0 {} [] [0, 3, 6, 48] [.pointer (some ⟨tb, 0, none⟩), .pointer (some ⟨g3, 0, none⟩), .bool false, .bool u.Entry.Fin] .nil (by kernel_rfl) (fun b343 => ?_)
              refine OPS.re [.pointer (some ⟨tb, 0, none⟩), .pointer (some ⟨g3, 0, none⟩), .bool false, .bool true] (by rw [show u.Entry.Fin = true from Bp.var.tt h342]) ?_
              refine OPS.batch 6 {} [.string u.Key, .agg #[.int .i64 u.Entry.Tag.Count, .int .i64 u.Entry.Tag.Client]] [6, 48, 49, 51, 54] [.bool false, .bool true, .pointer (some ⟨tb, 0, none⟩), .string u.Key, .agg #[.int .i64 u.Entry.Tag.Count, .int .i64 u.Entry.Tag.Client]] (.cons (Ld.row1 (P := Try.prog) (t := 9) (o := 1) (v := .string u.Key) hp11.get0 (by kernel_rfl)) (.cons (show Ld Try.prog w9 31 ⟨g3, 2, none⟩ (.agg #[.int .i64 u.Entry.Tag.Count, .int .i64 u.Entry.Tag.Client]) from Ld.rowN (cs := [.int .i64 u.Entry.Tag.Count, .int .i64 u.Entry.Tag.Client]) hp11.get0 (by kernel_rfl)) .nil)) (by kernel_rfl) (fun b344 => ?_)
              refine OPS.want (by kernel_rfl) ?_
              have hp347 := hp11.pull4
              have hp348 := hp347.pull4
              have hp349 := hp348.pull4
              have hp350 := hp349.pull4
              refine OPS.cons (opStep.call (some 55) [.pointer (some ⟨tb, 0, none⟩), .string u.Key, .agg #[.int .i64 u.Entry.Tag.Count, .int .i64 u.Entry.Tag.Client]] (by kernel_rfl) (fin_c w0 _ _ tb m dl T F D u.Key u.Entry.Tag hdl hp350 n hok (by omega)) ?_)
              rintro _ w351 ⟨f353, T354, rfl, hq357, hp352⟩
              refine ⟨_, rfl, ?_⟩
              have hok358 := hq357.ok hok
              refine OPS.batch 1 { wraps := [56] } [] [6, 56] [.bool false, .bool f353] .nil (by kernel_rfl) (fun b359 => ?_)
              refine OPS.nil ?_
              refine thn_n ?_
              refine WP.test (p := f353 = true) rfl Bp.var (fun h360 => ?_) (fun h360 => ?_)
              · refine WP.pure {} [] [6] [.bool true] .nil (by kernel_rfl) (fun b361 => ?_)
                refine thn_n ?_
                refine WP.seq ?_
                refine WP.pure {} [] [4, 5] [.bool true, .int .i64 0] .nil (by kernel_rfl) (fun b362 => ?_)
                refine thn_n ?_
                refine WP.ret ?_
                refine bodyQ.of _ rfl [.bool true, .int .i64 0] ⟨rfl, rfl, trivial⟩ ?_
                have hp363 := hp352.pull3
                have hp364 := hp363.pull3
                have hp365 := hp364.pull3
                have hp366 := hp365.pull3
                exact ⟨true, 0, T354, F, D, rfl, ⟨.inr ⟨by first | exact h15 | exact Classical.not_not.1 h15, rfl, false, f353, T, .inr ⟨by unfold comesU; have q0_ := h15; have q1_ := h23; have q2_ := h124; have q3_ := h307; have q4_ := h339; have q5_ := h342; have q6_ := h360; first | grind | (simp_all; done), rfl, rfl, rfl⟩, .inl ⟨by unfold endsU; have q0_ := h15; have q1_ := h23; have q2_ := h124; have q3_ := h307; have q4_ := h339; have q5_ := h342; have q6_ := h360; first | grind | (simp_all; done), hq357⟩, by have q0_ := h15; have q1_ := h23; have q2_ := h124; have q3_ := h307; have q4_ := h339; have q5_ := h342; have q6_ := h360; first | (simp; done) | grind | (simp_all; done)⟩, hok358.more⟩, (hp366.sub (.cons_cons _ (.cons_cons _ (.cons_cons _ (.cons_cons _ (.cons _ (.refl _)))))))⟩
              · refine WP.skip ?_
                refine thn_n ?_
                refine WP.seq ?_
                refine WP.pure {} [] [4, 5] [.bool false, .int .i64 0] .nil (by kernel_rfl) (fun b367 => ?_)
                refine thn_n ?_
                refine WP.ret ?_
                refine bodyQ.of _ rfl [.bool false, .int .i64 0] ⟨rfl, rfl, trivial⟩ ?_
                have hp368 := hp352.pull3
                have hp369 := hp368.pull3
                have hp370 := hp369.pull3
                have hp371 := hp370.pull3
                exact ⟨false, 0, T354, F, D, rfl, ⟨.inr ⟨by first | exact h15 | exact Classical.not_not.1 h15, rfl, false, f353, T, .inr ⟨by unfold comesU; have q0_ := h15; have q1_ := h23; have q2_ := h124; have q3_ := h307; have q4_ := h339; have q5_ := h342; have q6_ := h360; first | grind | (simp_all; done), rfl, rfl, rfl⟩, .inl ⟨by unfold endsU; have q0_ := h15; have q1_ := h23; have q2_ := h124; have q3_ := h307; have q4_ := h339; have q5_ := h342; have q6_ := h360; first | grind | (simp_all; done), hq357⟩, by have q0_ := h15; have q1_ := h23; have q2_ := h124; have q3_ := h307; have q4_ := h339; have q5_ := h342; have q6_ := h360; first | (simp; done) | grind | (simp_all; done)⟩, hok358.more⟩, (hp371.sub (.cons_cons _ (.cons_cons _ (.cons_cons _ (.cons_cons _ (.cons _ (.refl _)))))))⟩
            · refine OPS.batch 0 {} [] [0, 3, 6, 48] [.pointer (some ⟨tb, 0, none⟩), .pointer (some ⟨g3, 0, none⟩), .bool false, .bool u.Entry.Fin] .nil (by kernel_rfl) (fun b372 => ?_)
              refine OPS.re [.pointer (some ⟨tb, 0, none⟩), .pointer (some ⟨g3, 0, none⟩), .bool false, .bool false] (by rw [show u.Entry.Fin = false from Bp.var.ff h342]) ?_
              refine OPS.batch 8 { wraps := [56] } [] [6, 56] [.bool false, .bool false] .nil (by kernel_rfl) (fun b373 => ?_)
              refine OPS.nil ?_
              refine thn_n ?_
              refine WP.condF rfl ?_
              refine WP.skip ?_
              refine thn_n ?_
              refine WP.seq ?_
              refine WP.pure {} [] [4, 5] [.bool false, .int .i64 0] .nil (by kernel_rfl) (fun b374 => ?_)
              refine thn_n ?_
              refine WP.ret ?_
              refine bodyQ.of _ rfl [.bool false, .int .i64 0] ⟨rfl, rfl, trivial⟩ ?_
              have hp375 := hp11.pull4
              have hp376 := hp375.pull4
              have hp377 := hp376.pull4
              have hp378 := hp377.pull4
              exact ⟨false, 0, T, F, D, rfl, ⟨.inr ⟨by first | exact h15 | exact Classical.not_not.1 h15, rfl, false, false, T, .inr ⟨by unfold comesU; have q0_ := h15; have q1_ := h23; have q2_ := h124; have q3_ := h307; have q4_ := h339; have q5_ := h342; first | grind | (simp_all; done), rfl, rfl, rfl⟩, .inr ⟨by unfold endsU; have q0_ := h15; have q1_ := h23; have q2_ := h124; have q3_ := h307; have q4_ := h339; have q5_ := h342; first | grind | (simp_all; done), rfl, rfl⟩, by have q0_ := h15; have q1_ := h23; have q2_ := h124; have q3_ := h307; have q4_ := h339; have q5_ := h342; first | (simp; done) | grind | (simp_all; done)⟩, hok.more.more⟩, (hp378.sub (.cons_cons _ (.cons_cons _ (.cons_cons _ (.cons_cons _ (.cons _ (.refl _)))))))⟩
          · refine OPS.batch 0 {} [] [0, 3, 6, 38, 42] [.pointer (some ⟨tb, 0, none⟩), .pointer (some ⟨g3, 0, none⟩), .bool false, .bool false, .bool (decide (u.Kind = 3))] .nil (by kernel_rfl) (fun b379 => ?_)
            refine OPS.re [.pointer (some ⟨tb, 0, none⟩), .pointer (some ⟨g3, 0, none⟩), .bool false, .bool false, .bool false] (by rw [show (decide (u.Kind = 3)) = false from Bp.dec.ff h339]) ?_
            refine OPS.batch 14 { wraps := [46, 47, 56] } [] [6, 56] [.bool false, .bool false] .nil (by kernel_rfl) (fun b380 => ?_)
            refine OPS.nil ?_
            refine thn_n ?_
            refine WP.condF rfl ?_
            refine WP.skip ?_
            refine thn_n ?_
            refine WP.seq ?_
            refine WP.pure {} [] [4, 5] [.bool false, .int .i64 0] .nil (by kernel_rfl) (fun b381 => ?_)
            refine thn_n ?_
            refine WP.ret ?_
            refine bodyQ.of _ rfl [.bool false, .int .i64 0] ⟨rfl, rfl, trivial⟩ ?_
            have hp382 := hp11.pull4
            have hp383 := hp382.pull4
            have hp384 := hp383.pull4
            have hp385 := hp384.pull4
            exact ⟨false, 0, T, F, D, rfl, ⟨.inr ⟨by first | exact h15 | exact Classical.not_not.1 h15, rfl, false, false, T, .inr ⟨by unfold comesU; have q0_ := h15; have q1_ := h23; have q2_ := h124; have q3_ := h307; have q4_ := h339; first | grind | (simp_all; done), rfl, rfl, rfl⟩, .inr ⟨by unfold endsU; have q0_ := h15; have q1_ := h23; have q2_ := h124; have q3_ := h307; have q4_ := h339; first | grind | (simp_all; done), rfl, rfl⟩, by have q0_ := h15; have q1_ := h23; have q2_ := h124; have q3_ := h307; have q4_ := h339; first | (simp; done) | grind | (simp_all; done)⟩, hok.more.more⟩, (hp385.sub (.cons_cons _ (.cons_cons _ (.cons_cons _ (.cons_cons _ (.cons _ (.refl _)))))))⟩

end Go.Proofs.Ytdkgdidnknojlaa.K
namespace Go.Proofs.Ytdkgdidnknojlaa.K
open Go Go.RowKit
set_option linter.unusedVariables false
structure RelI (T : Tb) (D : List (SlH × ByteArray)) (n : Nat) (C : List Ce) (DC : List (SlH × ByteArray)) (dl : Nat) : Prop where
  ok : TbOk T D n
  doc : DocI C dl
  lk : ∀ key t v, memT T key t v ↔ memC C key t v
  ne : ∀ key s, mapV T key = some (some s) → s.l ≠ []
  dk : ∀ y ∈ C, Dk DC y.c.e.Data y.d
  cl : C.length ≤ n
theorem relI_nil (dl : Nat) : RelI [] [] 0 [] [] dl := ⟨tbok_nil, docI_nil dl, fun key t v => ⟨fun ⟨x, h, _⟩ => (by simp [shK, mapV_nil, shO] at h), fun ⟨y, h, _⟩ => (by cases h)⟩, fun key s h => (by simp [mapV_nil] at h), (fun y hy => by cases hy), Nat.le_refl _⟩
section
variable {C C1 C2 : List Ce} {key key' : ByteArray} {t t' f g : GTag} {v : Vt} {y : Ce} {k dl n : Nat} {T T1 T2 : Tb} {l : List (GTag × En)} {D D2 DC DC2 : List (SlH × ByteArray)} {d : ByteArray} {b1 b2 : Bool} {u : GUpdate}
theorem RelI.fins (h : RelI T D n C DC dl) (key : ByteArray) : finS (shO (shK T key)) = finD C key := fin_same (h.ok.sh key).1 h.doc.nd (fun t v => h.lk key t v)
theorem RelI.flo (h : RelI T D n C DC dl) (key : ByteArray) : floT (shO (shK T key)) dl = floD C key dl := by unfold floT floD; rw [h.fins]
theorem RelI.top (h : RelI T D n C DC dl) (key : ByteArray) : topT (shO (shK T key)) = topD C key := by unfold topT topD; rw [h.fins]
/-- The entry, as the shelf tells it. -/
theorem RelI.en (h : RelI T D n C DC dl) : (memC C key t (vN (enK T key t))) ∨ ((¬ ∃ v, memC C key t v) ∧ enK T key t = en0) := by
  unfold enK
  cases hv : mapV (shO (shK T key)) t with
  | none => exact .inr ⟨fun ⟨v, hm⟩ => (by obtain ⟨x, h1, _⟩ := (h.lk _ _ _).2 hm; rw [hv] at h1; exact nomatch h1), rfl⟩
  | some x => exact .inl ((h.lk _ _ _).1 ⟨x, hv, rfl⟩)
theorem RelI.one (h : RelI T D n C DC dl) {v w : Vt} (h1 : memC C key t v) (h2 : memC C key t w) : v = w := by
  obtain ⟨x, a, rfl⟩ := (h.lk _ _ _).2 h1
  obtain ⟨z, b, rfl⟩ := (h.lk _ _ _).2 h2
  rw [a] at b; cases b; rfl
theorem RelI.has (h : RelI T D n C DC dl) : (enK T key t).e.Has = true ↔ ∃ f d, memC C key t (f, true, d) := by
  rcases h.en (key := key) (t := t) with q | ⟨q, e⟩
  · constructor
    · intro z; unfold vN at q; rw [z] at q; exact ⟨_, _, q⟩
    · rintro ⟨f, d, q2⟩; have := h.one q q2; unfold vN at this; exact (Prod.mk.inj (Prod.mk.inj this).2).1
  · rw [e]
    exact ⟨(fun z => nomatch z), fun ⟨f, d, z⟩ => absurd ⟨_, z⟩ q⟩
theorem RelI.fin (h : RelI T D n C DC dl) : (enK T key t).e.Fin = true ↔ ∃ f d, memC C key t (true, f, d) := by
  rcases h.en (key := key) (t := t) with q | ⟨q, e⟩
  · constructor
    · intro z; unfold vN at q; rw [z] at q; exact ⟨_, _, q⟩
    · rintro ⟨f, d, q2⟩; have := h.one q q2; unfold vN at this; exact (Prod.mk.inj this).1
  · rw [e]
    exact ⟨(fun z => nomatch z), fun ⟨f, d, z⟩ => absurd ⟨_, z⟩ q⟩
theorem RelI.chgP (h : RelI T D n C DC dl) : chgP T key t dl ↔ ¬ (∃ f d, memC C key t (f, true, d)) ∧ ¬ tlt t (floD C key dl) := by
  unfold K.chgP
  rw [not_or, h.has, h.flo]
theorem RelI.chgF (h : RelI T D n C DC dl) : chgF T key t dl ↔ ¬ t ∈ finD C key ∧ ¬ tlt t (floD C key dl) := by
  unfold K.chgF
  rw [not_or, h.fin, h.flo, mem_finD2]
theorem ne_put (h : ∀ key s, mapV T key = some (some s) → s.l ≠ []) {b : Nat} (hl : l ≠ []) : ∀ key' s, mapV (mapPut T key (some ⟨b, l⟩)) key' = some (some s) → s.l ≠ [] := by
  intro key' s hs
  rw [mapV_put] at hs
  by_cases q : key' = key
  · rw [if_pos q] at hs; cases hs; exact hl
  · rw [if_neg q] at hs; exact h key' s hs
theorem put_ne {x : En} : mapPut l g x ≠ [] := by
  cases l with
  | nil => rw [put_nil]; simp
  | cons p l => rw [put_cons]; split <;> simp
theorem pre_rel (h : RelI T D n C DC dl) (hp : PreR T D key t d dl b1 T2 D2) (hq : PreD C DC key t d dl C2 DC2) (hk : 1 ≤ key.size ∧ key.size ≤ 64) (ht : tagProper t) (hs : d.size ≤ 65540) :
    RelI T2 D2 (n + 1) C2 DC2 dl ∧ (b1 = true → (∃ f, memC C2 key t (f, true, d)) ∧ ¬ ∃ f d', memC C key t (f, true, d')) ∧ (b1 = false → C2 = C ∧ T2 = T) ∧ (∀ key', finD C2 key' = finD C key') ∧ (b1 = true ↔ K.chgP T key t dl) := by
  obtain ⟨hdoc, hfin⟩ := pre_doc h.doc hq hk ht hs
  have hok := hp.ok h.ok
  have hlen := hq.len
  rcases hp with ⟨hc, rfl, rfl, rfl⟩ | ⟨hc, rfl, b, hh, X, rfl, rfl, hdk⟩
  · have hc' := hc
    rw [h.chgP] at hc
    have e : C2 = C ∧ DC2 = DC := by
      rcases hq with ⟨hno, ⟨_, rfl, rfl⟩ | ⟨hf, _⟩⟩ | ⟨k, hat, ⟨_, rfl, rfl⟩ | ⟨hf, hnh, _⟩⟩
      · exact ⟨rfl, rfl⟩
      · exact absurd ⟨fun ⟨f, d, hm⟩ => no_mem hno hm, hf⟩ hc
      · exact ⟨rfl, rfl⟩
      · refine absurd ⟨fun ⟨f, d, hm⟩ => hnh ?_, hf⟩ hc
        have := atK_one h.doc hat hm
        unfold vC at this
        exact (Prod.mk.inj (Prod.mk.inj this).2).1.symm
    obtain ⟨rfl, rfl⟩ := e
    exact ⟨⟨hok, h.doc, h.lk, h.ne, h.dk, by have := h.cl; omega⟩, (fun z => nomatch z), fun _ => ⟨rfl, rfl⟩, hfin, ⟨(fun z => nomatch z), fun z => absurd z hc'⟩⟩
  · have hc' := hc
    rw [h.chgP] at hc
    obtain ⟨hc1, hc2⟩ := hc
    have key1 : ∃ f, ∀ key' t' v, memC C2 key' t' v ↔ (key' = key ∧ t' = t ∧ v = (f, true, d)) ∨ (¬ (key' = key ∧ t' = t) ∧ memC C key' t' v) := by
      rcases hq with ⟨hno, ⟨z, _⟩ | ⟨hf, h1, X', rfl, _⟩⟩ | ⟨k, hat, ⟨z, _⟩ | ⟨hf, hnh, h1, X', rfl, _⟩⟩
      · exact absurd z hc2
      · exact ⟨false, fun key' t' v => memC_app ⟨rfl, rfl⟩ hno⟩
      · rcases z with z | z
        · exact absurd z hc2
        · refine absurd ?_ hc1
          have := atK_mem hat
          unfold vC at this
          rw [z] at this
          exact ⟨_, _, this⟩
      · exact ⟨C[k]!.c.e.Fin, fun key' t' v => memC_set h.doc.nd hat.1 hat.2.1 hat.2.1⟩
    have key2 : (enK T key t).e.Fin = true ↔ ∃ f d, memC C key t (true, f, d) := h.fin
    obtain ⟨f, hC⟩ := key1
    have hfe : (enK T key t).e.Fin = f := by
      have h3 : t ∈ finD C2 key ↔ t ∈ finD C key := by rw [hfin]
      rw [mem_finD2, mem_finD2, ← key2] at h3
      have h4 : (∃ x y, memC C2 key t (true, x, y)) ↔ f = true := by
        constructor
        · rintro ⟨x, y, hm⟩
          rcases (hC _ _ _).1 hm with ⟨_, _, e⟩ | ⟨q, _⟩
          · exact (Prod.mk.inj e).1.symm
          · exact absurd ⟨rfl, rfl⟩ q
        · rintro rfl
          exact ⟨true, d, (hC _ _ _).2 (.inl ⟨rfl, rfl, rfl⟩)⟩
      rw [h4] at h3
      cases hx : (enK T key t).e.Fin <;> cases f <;> simp_all
    have hdk2 : ∀ y ∈ C2, Dk DC2 y.c.e.Data y.d := by
      rcases hq with ⟨hno, ⟨z, _⟩ | ⟨hf, h1, X', rfl, rfl, hd⟩⟩ | ⟨k, hat, ⟨z, rfl, rfl⟩ | ⟨hf, hnh, h1, X', rfl, rfl, hd⟩⟩
      · exact absurd z hc2
      · intro y hy
        rcases List.mem_append.1 hy with hy | hy
        · exact (h.dk y hy).more
        · obtain rfl := List.mem_singleton.1 hy; exact hd
      · exact h.dk
      · intro y hy
        rcases in_set hat.1 hy with rfl | hy
        · exact hd
        · exact (h.dk y hy).more
    refine ⟨⟨hok, hdoc, fun key' t' v => ?_, ne_put h.ne put_ne, hdk2, by have := h.cl; omega⟩, fun _ => ⟨⟨f, (hC _ _ _).2 (.inl ⟨rfl, rfl, rfl⟩)⟩, hc1⟩, (fun z => nomatch z), hfin, ⟨fun _ => hc', fun _ => rfl⟩⟩
    rw [memT_put (g := t) rfl, hC, h.lk]
    show (_ ∧ _ ∧ v = ((enK T key t).e.Fin, true, d)) ∨ _ ↔ _
    rw [hfe]
theorem fin_rel (h : RelI T D n C DC dl) (hp : FinR T key t dl b2 T2) (hq : FinD C key t dl C2) (hk : 1 ≤ key.size ∧ key.size ≤ 64) (ht : tagProper t) :
    RelI T2 D (n + 1) C2 DC dl ∧ (b2 = true → (∃ f d, memC C2 key t (true, f, d)) ∧ ¬ t ∈ finD C key) ∧ (b2 = false → C2 = C ∧ T2 = T) ∧ (b2 = true ↔ K.chgF T key t dl) := by
  have hok := hp.ok h.ok
  rcases hp with ⟨hc, rfl, rfl⟩ | ⟨hc, rfl, b, rfl⟩
  · have hc' := hc
    rw [h.chgF] at hc
    have e : C2 = C := by
      rcases hq.mid with ⟨_, rfl⟩ | ⟨hf, C1, hm, rfl⟩
      · rfl
      · rcases Classical.em (t ∈ finD C key) with q | q
        · obtain ⟨x, y, hm2⟩ := mem_finD2.1 q
          obtain rfl := hm.idle h.doc hm2
          exact left_self h.doc
        · exact absurd ⟨q, hf⟩ hc
    obtain rfl := e
    exact ⟨⟨hok, h.doc, h.lk, h.ne, h.dk, by have := h.cl; omega⟩, (fun z => nomatch z), fun _ => ⟨rfl, rfl⟩, ⟨(fun z => nomatch z), fun z => absurd z hc'⟩⟩
  · have hc' := hc
    rw [h.chgF] at hc
    obtain ⟨hc1, hc2⟩ := hc
    rcases hq.mid with ⟨z, _⟩ | ⟨hf, C1, hm, rfl⟩
    · exact absurd z hc2
    obtain ⟨hh, dd, hwas, hC⟩ := hm.mem h.doc
    have hen : (enK T key t).e.Has = hh ∧ (enK T key t).d = dd := by
      rcases h.en (key := key) (t := t) with q | ⟨q, e⟩
      · rcases hwas with ⟨q2, _⟩ | ⟨ff, q2⟩
        · exact absurd ⟨_, q⟩ q2
        · have := h.one q q2
          unfold vN at this
          exact ⟨(Prod.mk.inj (Prod.mk.inj this).2).1, (Prod.mk.inj (Prod.mk.inj this).2).2⟩
      · rcases hwas with ⟨_, q2, q3⟩ | ⟨ff, q2⟩
        · rw [e, q2, q3]; exact ⟨rfl, rfl⟩
        · exact absurd ⟨_, q2⟩ q
    have hl1 : ∀ key' t' v, memT (mapPut T key (some ⟨b, finP T key t⟩)) key' t' v ↔ memC C1 key' t' v := by
      intro key' t' v
      unfold finP
      rw [memT_put (g := t) rfl, hC, h.lk]
      show (_ ∧ _ ∧ v = (true, (enK T key t).e.Has, (enK T key t).d)) ∨ _ ↔ _
      rw [hen.1, hen.2]
    have hfl : floT (finP T key t) dl = floD C1 key dl := by
      unfold floT floD
      rw [fin_same (finP_ok h.ok).1 (hm.nd h.doc)]
      intro t' v
      have := hl1 key t' v
      unfold memT at this
      rw [shK_put, if_pos rfl] at this
      exact this
    have hst : ¬ tlt t (floD C1 key dl) := by
      refine stay (finD_desc C key) (finD_desc C1 key) ?_ hf (proper_zero ht)
      refine (List.perm_ext_iff_of_nodup (finD_nd (hm.nd h.doc)) (List.nodup_cons.2 ⟨hc1, finD_nd h.doc.nd⟩)).2 fun a => ?_
      rw [List.mem_cons, mem_finD2, mem_finD2]
      constructor
      · rintro ⟨x, y, hx⟩
        rcases (hC _ _ _).1 hx with ⟨_, e, _⟩ | ⟨_, hx⟩
        · exact .inl e
        · exact .inr ⟨x, y, hx⟩
      · rintro (rfl | ⟨x, y, hx⟩)
        · exact ⟨hh, dd, (hC _ _ _).2 (.inl ⟨rfl, rfl, rfl⟩)⟩
        · refine ⟨x, y, (hC _ _ _).2 (.inr ⟨?_, hx⟩)⟩
          rintro ⟨_, rfl⟩
          exact hc1 (mem_finD2.2 ⟨x, y, hx⟩)
    have hin : memC (leftC C1 key (floD C1 key dl)) key t (true, hh, dd) := memC_left.2 ⟨(hC _ _ _).2 (.inl ⟨rfl, rfl, rfl⟩), fun q => hst q.2⟩
    have hlk : ∀ key' t' v, memT (mapPut T key (some ⟨b, keepT (finP T key t) (floT (finP T key t) dl)⟩)) key' t' v ↔ memC (leftC C1 key (floD C1 key dl)) key' t' v := by
      intro key' t' v
      rw [memT_keep (c := b), memC_left, hl1, hfl]
    refine ⟨⟨hok, hm.doc h.doc hk ht, hlk, ne_put h.ne ?_, fun y hy => hm.dk h.dk y (List.mem_filter.1 hy).1, ?_⟩, fun _ => ⟨⟨_, _, hin⟩, hc1⟩, (fun z => nomatch z), ⟨fun _ => hc', fun _ => rfl⟩⟩
    · intro e
      obtain ⟨x, hx, _⟩ := (hlk key t _).2 hin
      rw [shK_put, if_pos rfl] at hx
      have hx2 : mapV (keepT (finP T key t) (floT (finP T key t) dl)) t = some x := hx
      rw [e, mapV_nil] at hx2
      cases hx2
    · have h1 := hm.len
      have h2 : (leftC C1 key (floD C1 key dl)).length ≤ C1.length := List.length_filter_le _ _
      have := h.cl
      omega
theorem put_len_old {κ ν : Type} [DecidableEq κ] {l : List (κ × ν)} {k : κ} {v x : ν} (h : mapV l k = some v) : (mapPut l k x).length = l.length := by
  have h1 := (put_perm (l := l) (k := k) (v := x)).length_eq
  have h2 := (del_perm h).length_eq
  simp only [List.length_cons] at h1 h2
  omega
theorem ApR.ok1 {e : Int} {f : Bool} (h : ApR T D u d dl f e T2 D2) (hok : TbOk T D n) : TbOk T2 D2 (n + 1) := by
  rcases h with ⟨_, _, _, rfl, rfl⟩ | ⟨_, _, f1, f2, T1, h1, h2, _⟩
  · exact hok.more
  rcases h2 with ⟨_, h2⟩ | ⟨_, rfl, rfl⟩
  · rcases h1 with ⟨_, h1⟩ | ⟨_, rfl, rfl, rfl⟩
    · have hok1 := h1.ok hok
      rcases h1 with ⟨_, rfl, rfl, rfl⟩ | ⟨_, rfl, b, hh, X, rfl, rfl, hdk⟩
      · exact h2.ok hok
      · have hok2 := hok1
        rcases h2 with ⟨_, rfl, rfl⟩ | ⟨_, rfl, b', rfl⟩
        · exact hok1
        · generalize hT1 : mapPut T u.Key (some (⟨b, mapPut (shO (shK T u.Key)) u.Entry.Tag ⟨⟨u.Entry.Tag, (enK T u.Key u.Entry.Tag).e.Fin, true, hh⟩, d⟩⟩ : Sf)) = T1 at *
          have hv : ∃ s, mapV T1 u.Key = some (some s) ∧ ∃ x, mapV s.l u.Entry.Tag = some x := by
            rw [← hT1, mapV_put, if_pos rfl]
            exact ⟨_, rfl, _, by rw [mapV_put, if_pos rfl]⟩
          obtain ⟨s, hs, x, hx⟩ := hv
          have hP := finP_ok (key := u.Key) (g := u.Entry.Tag) hok1
          have hl : (finP T1 u.Key u.Entry.Tag).length ≤ n + 1 := by
            unfold finP
            rw [shK_some hs]
            show (mapPut s.l _ _).length ≤ _
            rw [put_len_old hx]
            exact (hok1.one hs).2.1
          refine ⟨put_nodup hok1.keys, fun p hp => ?_, by rw [put_len_old hs]; exact hok1.size⟩
          rcases mapPut_sub p hp with rfl | hp
          · exact ⟨_, rfl, hP.1.sublist ((List.filter_sublist (l := finP T1 u.Key u.Entry.Tag)).map _), Nat.le_trans (List.length_filter_le _ _) hl, fun q hq => hP.2.2 q (List.mem_filter.1 hq).1⟩
          · exact hok1.shelf p hp
    · exact h2.ok hok
  · rcases h1 with ⟨_, h1⟩ | ⟨_, rfl, rfl, rfl⟩
    · exact h1.ok hok
    · exact hok.more
theorem ApD.len1 (h : ApD C DC u d dl C2 DC2) : C2.length ≤ C.length + 1 := by
  obtain ⟨C1, h1, h2⟩ := h
  have hfin : ∀ {C1 : List Ce} {m : Nat}, FinD C1 u.Key u.Entry.Tag dl C2 → (C1.length ≤ m ∧ ¬ nocell C1 u.Key u.Entry.Tag) ∨ C1.length + 1 ≤ m → C2.length ≤ m := by
    intro C1 m hf hm
    rcases hf.mid with ⟨_, rfl⟩ | ⟨_, C3, h3, rfl⟩
    · rcases hm with hm | hm
      · exact hm.1
      · omega
    · have hl : (leftC C3 u.Key (floD C3 u.Key dl)).length ≤ C3.length := List.length_filter_le _ _
      rcases h3 with ⟨hno, rfl⟩ | ⟨k, _, rfl⟩
      · rcases hm with hm | hm
        · exact absurd hno hm.2
        · simp at hl; omega
      · rw [List.length_set] at hl
        rcases hm with hm | hm
        · omega
        · omega
  rcases h1 with ⟨_, h1⟩ | ⟨_, rfl, rfl⟩
  · rcases h2 with ⟨_, h2⟩ | ⟨_, rfl⟩
    · rcases h1 with ⟨hno, ⟨_, rfl, _⟩ | ⟨_, hh, X, rfl, _⟩⟩ | ⟨k, hat, ⟨_, rfl, _⟩ | ⟨_, _, hh, X, rfl, _⟩⟩
      · exact hfin h2 (.inr (Nat.le_refl _))
      · refine hfin h2 (.inl ⟨by simp, fun q => ?_⟩)
        refine q C.length (by simp) ?_
        rw [getElem!_pos _ C.length (by simp)]
        simp [isC]
      · exact hfin h2 (.inr (Nat.le_refl _))
      · exact hfin h2 (.inr (by simp))
    · exact h1.len
  · rcases h2 with ⟨_, h2⟩ | ⟨_, rfl⟩
    · exact hfin h2 (.inr (Nat.le_refl _))
    · omega
/-- One update, at both. -/
theorem apply_rel {e1 e2 : Int} {w1 : Bool} (h : RelI T D n C DC dl) (hw : WouldR T u dl w1 e1) (hp : ApR T D u d dl b1 e2 T2 D2) (hm : MayU u) (hq : ApD C DC u d dl C2 DC2) (hd : d.size = u.Entry.Data.n) :
    RelI T2 D2 (n + 1) C2 DC2 dl ∧ e1 = 0 ∧ e2 = 0 ∧ w1 = b1 ∧ (b1 = true ↔ ¬ C.map itC = C2.map itC) := by
  have hk : 1 ≤ u.Key.size ∧ u.Key.size ≤ 64 := ⟨hm.1, hm.2.1⟩
  have ht : tagProper u.Entry.Tag := hm.2.2.1
  have hs : d.size ≤ 65540 := by rw [hd]; exact hm.2.2.2.1
  have k1 := hp.ok1 h.ok
  have k2 := hq.len1
  rcases hw with ⟨z, _⟩ | ⟨_, rfl, hw⟩
  · exact absurd hm z
  rcases hp with ⟨z, _⟩ | ⟨_, rfl, f1, f2, T1, hp1, hp2, hf⟩
  · exact absurd hm z
  obtain ⟨C1, hq1, hq2⟩ := hq
  have s1 : RelI T1 D2 (n + 1) C1 DC2 dl ∧ (f1 = true → (∃ f, memC C1 u.Key u.Entry.Tag (f, true, d)) ∧ ¬ ∃ f d', memC C u.Key u.Entry.Tag (f, true, d')) ∧ (f1 = false → C1 = C ∧ T1 = T) ∧ (∀ key', finD C1 key' = finD C key') ∧ (f1 = true ↔ comesU u ∧ K.chgP T u.Key u.Entry.Tag dl) := by
    rcases hp1 with ⟨hc, hp1⟩ | ⟨hc, rfl, rfl, rfl⟩
    · rcases hq1 with ⟨_, hq1⟩ | ⟨z, _⟩
      · obtain ⟨a1, a2, a3, a4, a5⟩ := pre_rel h hp1 hq1 hk ht hs
        exact ⟨a1, a2, a3, a4, a5.trans ⟨fun z => ⟨hc, z⟩, fun z => z.2⟩⟩
      · exact absurd hc z
    · rcases hq1 with ⟨z, _⟩ | ⟨_, rfl, rfl⟩
      · exact absurd z hc
      · exact ⟨⟨h.ok.more, h.doc, h.lk, h.ne, h.dk, by have := h.cl; omega⟩, (fun z => nomatch z), fun _ => ⟨rfl, rfl⟩, fun _ => rfl, ⟨(fun z => nomatch z), fun z => absurd z.1 hc⟩⟩
  obtain ⟨a1, a2, a3, a4, a5⟩ := s1
  have s2 : RelI T2 D2 (n + 1 + 1) C2 DC2 dl ∧ (f2 = true → (∃ f d, memC C2 u.Key u.Entry.Tag (true, f, d)) ∧ ¬ u.Entry.Tag ∈ finD C1 u.Key) ∧ (f2 = false → C2 = C1 ∧ T2 = T1) ∧ (f2 = true ↔ endsU u ∧ K.chgF T1 u.Key u.Entry.Tag dl) := by
    rcases hp2 with ⟨hc, hp2⟩ | ⟨hc, rfl, rfl⟩
    · rcases hq2 with ⟨_, hq2⟩ | ⟨z, _⟩
      · obtain ⟨c1, c2, c3, c4⟩ := fin_rel a1 hp2 hq2 hk ht
        exact ⟨c1, c2, c3, c4.trans ⟨fun z => ⟨hc, z⟩, fun z => z.2⟩⟩
      · exact absurd hc z
    · rcases hq2 with ⟨z, _⟩ | ⟨_, rfl⟩
      · exact absurd z hc
      · exact ⟨⟨a1.ok.more, a1.doc, a1.lk, a1.ne, a1.dk, by have := a1.cl; omega⟩, (fun z => nomatch z), fun _ => ⟨rfl, rfl⟩, ⟨(fun z => nomatch z), fun z => absurd z.1 hc⟩⟩
  obtain ⟨c1, c2, c3, c4⟩ := s2
  refine ⟨⟨k1, c1.doc, c1.lk, c1.ne, c1.dk, by have := h.cl; omega⟩, rfl, rfl, ?_, ?_⟩
  · have h1 : K.chgF T1 u.Key u.Entry.Tag dl ↔ K.chgF T u.Key u.Entry.Tag dl := by
      rw [a1.chgF, h.chgF, a4, floD_of (a4 _)]
    have h2 : b1 = true ↔ wouldP T u dl := by
      rw [hf, a5, c4, h1]; rfl
    have h3 : w1 = true ↔ wouldP T u dl := ⟨fun z => Classical.byContradiction fun q => (by have := hw.ff q; rw [this] at z; exact nomatch z), fun z => hw.tt z⟩
    rw [← h2] at h3
    cases w1 <;> cases b1 <;> simp_all
  · have hmap : ∀ {A B : List Ce} {key t v}, A.map itC = B.map itC → memC B key t v → memC A key t v := by
      rintro A B key t v e ⟨z, hz, q1, q2⟩
      have : itC z ∈ A.map itC := by rw [e]; exact List.mem_map_of_mem hz
      obtain ⟨x, hx, ex⟩ := List.mem_map.1 this
      rw [itC_eq] at ex
      exact ⟨x, hx, ⟨ex.1.trans q1.1, ex.2.1.trans q1.2⟩, by rw [← q2]; unfold vC; rw [ex.2.2.1, ex.2.2.2.1, ex.2.2.2.2]⟩
    constructor
    · intro hb e
      rcases hf.1 hb with z | z
      · cases hf2 : f2 with
        | true =>
          obtain ⟨⟨x, y, hx⟩, hno⟩ := c2 hf2
          refine hno ?_
          rw [a4, mem_finD2]
          exact ⟨x, y, hmap e hx⟩
        | false =>
          obtain ⟨rfl, _⟩ := c3 hf2
          obtain ⟨⟨f, hx⟩, hno⟩ := a2 z
          exact hno ⟨f, d, hmap e hx⟩
      · obtain ⟨⟨x, y, hx⟩, hno⟩ := c2 z
        refine hno ?_
        rw [a4, mem_finD2]
        exact ⟨x, y, hmap e hx⟩
    · intro hne
      rw [hf]
      cases hf1 : f1 with
      | true => exact .inl rfl
      | false =>
        cases hf2 : f2 with
        | true => exact .inr rfl
        | false =>
          obtain ⟨rfl, _⟩ := c3 hf2
          obtain ⟨rfl, _⟩ := a3 hf1
          exact absurd rfl hne
end
end Go.Proofs.Ytdkgdidnknojlaa.K
