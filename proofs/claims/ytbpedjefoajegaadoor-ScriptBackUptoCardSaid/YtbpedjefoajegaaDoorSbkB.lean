/- The walks of SbkB: what each function computes. -/
import Derived.Test.YtbpedjefoajegaaDoorProg
import Derived.Test.YtbpedjefoajegaaDoorCoreO
import Derived.Test.YtbpedjefoajegaaDoorSbkA
import Derived.Test.YtbpedjefoajegaaDoorScrP
namespace Go.Proofs.YtbpedjefoajegaaDoor.K
open Go Go.Proofs Go.RowKit
set_option linter.unusedVariables false
set_option linter.unusedSimpArgs false
set_option maxRecDepth 20000
set_option maxHeartbeats 4000000

theorem sb_awake (w : World) (hls : LibS w) :
    Calls Tryd.prog 6 #[] w (fun x w' => x = .returned (.bool true) ∧ Fram Non w w') := by
  refine calls_of Tryd.func6 rfl 72 rfl (by simp) ?_
  have hp0 := Hp.init w
  have he0 : List.map (env0 []) [] = [] := by kernel_rfl
  obtain ⟨b0, he0⟩ := toMk he0
  rw [he0]
  clear he0
  refine WP.seq ?_
  refine WP.pure {} [] [] [] .nil (by kernel_rfl) (fun b1 => ?_)
  refine thn_n ?_
  refine WP.seq ?_
  refine WP.pure {} [] [1] [.string ⟨#[112, 117, 116, 32, 49, 32, 54, 98, 32, 55, 56, 10, 103, 101, 116, 32, 45, 51, 32, 45, 10, 99, 114, 97, 115, 104, 32, 48, 32, 49, 32, 45, 49, 10, 114, 111, 117, 110, 100, 32, 57, 32, 53, 10, 98, 117, 114, 115, 116, 32, 50, 32, 55, 32, 52, 50, 57, 52, 57, 54, 55, 50, 57, 53, 10]⟩] .nil (by kernel_rfl) (fun b2 => ?_)
  refine thn_n ?_
  refine WP.seq ?_
  refine WP.region _ rfl (by kernel_rfl) ?_
  refine OPS.batch 1 {} [] [1, 7] [.string ⟨#[112, 117, 116, 32, 49, 32, 54, 98, 32, 55, 56, 10, 103, 101, 116, 32, 45, 51, 32, 45, 10, 99, 114, 97, 115, 104, 32, 48, 32, 49, 32, 45, 49, 10, 114, 111, 117, 110, 100, 32, 57, 32, 53, 10, 98, 117, 114, 115, 116, 32, 50, 32, 55, 32, 52, 50, 57, 52, 57, 54, 55, 50, 57, 53, 10]⟩, .string ⟨#[112, 117, 116, 32, 49, 32, 54, 98, 32, 55, 56, 10, 103, 101, 116, 32, 45, 51, 32, 45, 10, 99, 114, 97, 115, 104, 32, 48, 32, 49, 32, 45, 49, 10, 114, 111, 117, 110, 100, 32, 57, 32, 53, 10, 98, 117, 114, 115, 116, 32, 50, 32, 55, 32, 52, 50, 57, 52, 57, 54, 55, 50, 57, 53, 10]⟩] .nil (by kernel_rfl) (fun b3 => ?_)
  refine OPS.cons (opStep.call (some 8) [.string ⟨#[112, 117, 116, 32, 49, 32, 54, 98, 32, 55, 56, 10, 103, 101, 116, 32, 45, 51, 32, 45, 10, 99, 114, 97, 115, 104, 32, 48, 32, 49, 32, 45, 49, 10, 114, 111, 117, 110, 100, 32, 57, 32, 53, 10, 98, 117, 114, 115, 116, 32, 50, 32, 55, 32, 52, 50, 57, 52, 57, 54, 55, 50, 57, 53, 10]⟩] (by kernel_rfl) (sc_Parse ⟨#[112, 117, 116, 32, 49, 32, 54, 98, 32, 55, 56, 10, 103, 101, 116, 32, 45, 51, 32, 45, 10, 99, 114, 97, 115, 104, 32, 48, 32, 49, 32, 45, 49, 10, 114, 111, 117, 110, 100, 32, 57, 32, 53, 10, 98, 117, 114, 115, 116, 32, 50, 32, 55, 32, 52, 50, 57, 52, 57, 54, 55, 50, 57, 53, 10]⟩ (show (⟨#[112, 117, 116, 32, 49, 32, 54, 98, 32, 55, 56, 10, 103, 101, 116, 32, 45, 51, 32, 45, 10, 99, 114, 97, 115, 104, 32, 48, 32, 49, 32, 45, 49, 10, 114, 111, 117, 110, 100, 32, 57, 32, 53, 10, 98, 117, 114, 115, 116, 32, 50, 32, 55, 32, 52, 50, 57, 52, 57, 54, 55, 50, 57, 53, 10]⟩ : ByteArray).size ≤ 8796093022200 from by decide) (fun x hx => Nat.le_trans (aw_linesz x hx) (by decide)) _ (hls.fram hp0.fr)) ?_)
  rintro _ w6 ⟨a8, n9, c10, cl11, F12, xs13, m14, e15, rfl, hq16, hp7⟩
  have hq16a := own_flat (f := GStep.cells) (sz := 6) (fun _ => rfl) (by decide) hp7.get0
  have hq16b := hp7.get1.1
  refine ⟨_, rfl, ?_⟩
  have hp17 := hp0.madeQ hp7
  simp only [List.cons_append, List.nil_append] at hp17
  obtain ⟨hz1_, hz2_, hz3_⟩ := hq16.of aw_lines (fun y hy => ⟨aw_ok y hy, aw_in y hy⟩) (by decide)
  subst hz1_ hz2_
  subst hz3_
  have hlen9 : cl11.length = 5 := hq16b
  have f0 := hp17.get1.2 0 (by omega)
  have f1 := hp17.get1.2 1 (by omega)
  have f2 := hp17.get1.2 2 (by omega)
  have f3 := hp17.get1.2 3 (by omega)
  have k0 : cl11[0]!.Key = (⟨#[107]⟩ : ByteArray) := f0.key
  have k1 : cl11[1]!.A = -3 := f1.a
  have k2 : cl11[2]!.L.n = 2 := f2.ln
  have k3 : cl11[3]!.B = 9 := f3.b
  refine OPS.batch 7 {} [] [1, 2, 3, 4] [.string ⟨#[112, 117, 116, 32, 49, 32, 54, 98, 32, 55, 56, 10, 103, 101, 116, 32, 45, 51, 32, 45, 10, 99, 114, 97, 115, 104, 32, 48, 32, 49, 32, 45, 49, 10, 114, 111, 117, 110, 100, 32, 57, 32, 53, 10, 98, 117, 114, 115, 116, 32, 50, 32, 55, 32, 52, 50, 57, 52, 57, 54, 55, 50, 57, 53, 10]⟩, .slice a8 n9 c10, .int .i64 0, .int .i64 0] .nil (by kernel_rfl) (fun b20 => ?_)
  refine OPS.nil ?_
  refine thn_n ?_
  refine WP.seq ?_
  refine WP.seq ?_
  have := own_flat (sz := 6) (fun _ => rfl) (by decide) hp17.get0
  have hy22 : (cl11)[0]? = some cl11[0]! := get_bang (by first | (omega) | (simp only [List.length_append, List.length_cons, List.length_nil]; omega) | (simp only [List.length_take, List.length_append, List.length_cons, List.length_nil]; omega))
  have := own_flat (sz := 6) (fun _ => rfl) (by decide) hp17.get0
  have hy24 : (cl11)[1]? = some cl11[1]! := get_bang (by first | (omega) | (simp only [List.length_append, List.length_cons, List.length_nil]; omega) | (simp only [List.length_take, List.length_append, List.length_cons, List.length_nil]; omega))
  have := own_flat (sz := 6) (fun _ => rfl) (by decide) hp17.get0
  have hy26 : (cl11)[2]? = some cl11[2]! := get_bang (by first | (omega) | (simp only [List.length_append, List.length_cons, List.length_nil]; omega) | (simp only [List.length_take, List.length_append, List.length_cons, List.length_nil]; omega))
  have := own_flat (sz := 6) (fun _ => rfl) (by decide) hp17.get0
  have hy28 : (cl11)[3]? = some cl11[3]! := get_bang (by first | (omega) | (simp only [List.length_append, List.length_cons, List.length_nil]; omega) | (simp only [List.length_take, List.length_append, List.length_cons, List.length_nil]; omega))
  refine WP.pure { wraps := [17, 22, 29, 37, 44, 52, 59], subs := [21, 28, 36, 43, 51, 58] } [.bool false, .string (cl11[0]!.Key), .bool false, .slice (cl11[0]!.Value.a) (cl11[0]!.Value.n) (cl11[0]!.Value.c), .string ⟨#[120]⟩, .bool false, .int .i64 (cl11[1]!.A), .bool false, .slice (cl11[2]!.L.a) (cl11[2]!.L.n) (cl11[2]!.L.c), .bool false, .int .i64 (cl11[3]!.B), .bool false] [1, 2, 59] [.string ⟨#[112, 117, 116, 32, 49, 32, 54, 98, 32, 55, 56, 10, 103, 101, 116, 32, 45, 51, 32, 45, 10, 99, 114, 97, 115, 104, 32, 48, 32, 49, 32, 45, 49, 10, 114, 111, 117, 110, 100, 32, 57, 32, 53, 10, 98, 117, 114, 115, 116, 32, 50, 32, 55, 32, 52, 50, 57, 52, 57, 54, 55, 50, 57, 53, 10]⟩, .slice a8 n9 c10, .bool false] (.cons (show (.bool (decide (¬ (((n9 : Nat) : Int) = 5))) : Go.Value) = .bool false from congrArg Value.bool (decide_eq_false (fun q_ => q_ (by first | rfl | assumption | omega)))) (.cons (show InB (0) (n9) from ⟨by omega, by omega⟩) (.cons ((SlR.own (hp17.get0)).some (by omega)) (.cons (Ld.el1 (P := Tryd.prog) (t := 9) (SlR.own (hp17.get0)).rd 6 (fun _ => rfl) hy22 (o := 3) (v := .string (cl11[0]!.Key)) (by kernel_rfl)) (.cons (show (.bool (decide (¬ ((cl11[0]!.Key) = ⟨#[107]⟩))) : Go.Value) = .bool false from congrArg Value.bool (decide_eq_false (fun q_ => q_ (by first | rfl | assumption | omega)))) (.cons (show InB (0) (n9) from ⟨by omega, by omega⟩) (.cons ((SlR.own (hp17.get0)).some (by omega)) (.cons (Ld.el1 (P := Tryd.prog) (t := 28) (SlR.own (hp17.get0)).rd 6 (fun _ => rfl) hy22 (o := 4) (v := .slice (cl11[0]!.Value.a) (cl11[0]!.Value.n) (cl11[0]!.Value.c)) (by kernel_rfl)) (.cons (show Bs Tryd.prog w6 (.slice (cl11[0]!.Value.a) (cl11[0]!.Value.n) (cl11[0]!.Value.c)) (.string ⟨#[120]⟩) from ((show valAt w6 cl11[0]!.Value = ⟨#[120]⟩ from (hp17.get1.2 0 (by omega)).val) ▸ VB.bs (P := Tryd.prog) (hp17.get1.2 0 (by omega)).vb (Hp.init w6))) (.cons (show (.bool (decide (¬ ((⟨#[120]⟩ : ByteArray) = ⟨#[120]⟩))) : Go.Value) = .bool false from congrArg Value.bool (decide_eq_false (fun q_ => q_ (by first | rfl | assumption | omega)))) (.cons (show InB (1) (n9) from ⟨by omega, by omega⟩) (.cons ((SlR.own (hp17.get0)).some (by omega)) (.cons (Ld.el1 (P := Tryd.prog) (t := 3) (SlR.own (hp17.get0)).rd 6 (fun _ => rfl) hy24 (o := 1) (v := .int .i64 (cl11[1]!.A)) (by kernel_rfl)) (.cons (show (.bool (decide (¬ ((cl11[1]!.A) = (-3)))) : Go.Value) = .bool false from congrArg Value.bool (decide_eq_false (fun q_ => q_ (by first | rfl | assumption | omega)))) (.cons (show InB (2) (n9) from ⟨by omega, by omega⟩) (.cons ((SlR.own (hp17.get0)).some (by omega)) (.cons (Ld.el1 (P := Tryd.prog) (t := 29) (SlR.own (hp17.get0)).rd 6 (fun _ => rfl) hy26 (o := 5) (v := .slice (cl11[2]!.L.a) (cl11[2]!.L.n) (cl11[2]!.L.c)) (by kernel_rfl)) (.cons (show (.bool (decide (¬ (((cl11[2]!.L.n : Nat) : Int) = 2))) : Go.Value) = .bool false from congrArg Value.bool (decide_eq_false (fun q_ => q_ (by first | rfl | assumption | omega)))) (.cons (show InB (3) (n9) from ⟨by omega, by omega⟩) (.cons ((SlR.own (hp17.get0)).some (by omega)) (.cons (Ld.el1 (P := Tryd.prog) (t := 3) (SlR.own (hp17.get0)).rd 6 (fun _ => rfl) hy28 (o := 2) (v := .int .i64 (cl11[3]!.B)) (by kernel_rfl)) (.cons (show (.bool (decide (¬ ((cl11[3]!.B) = 9))) : Go.Value) = .bool false from congrArg Value.bool (decide_eq_false (fun q_ => q_ (by first | rfl | assumption | omega)))) .nil)))))))))))))))))))))) (by kernel_rfl) (fun b29 => ?_)
  refine thn_n ?_
  refine WP.condF rfl ?_
  refine WP.skip ?_
  refine thn_n ?_
  refine WP.seq ?_
  refine WP.region _ rfl (by kernel_rfl) ?_
  refine OPS.batch 1 {} [] [1, 61] [.string ⟨#[112, 117, 116, 32, 49, 32, 54, 98, 32, 55, 56, 10, 103, 101, 116, 32, 45, 51, 32, 45, 10, 99, 114, 97, 115, 104, 32, 48, 32, 49, 32, 45, 49, 10, 114, 111, 117, 110, 100, 32, 57, 32, 53, 10, 98, 117, 114, 115, 116, 32, 50, 32, 55, 32, 52, 50, 57, 52, 57, 54, 55, 50, 57, 53, 10]⟩, .slice a8 n9 c10] .nil (by kernel_rfl) (fun b30 => ?_)
  refine OPS.cons (opStep.call (some 62) [.slice a8 n9 c10] (by kernel_rfl) (sc_Text cl11 awL a8 n9 c10 _ (hls.fram hp17.fr) (own_flat (f := GStep.cells) (sz := 6) (fun _ => rfl) (by decide) hp17.get0).symm (by omega) (SlR.own hp17.get0) (hp17.get1).tr aw_sm (fun x hx => Nat.le_trans (aw_linez x hx) (by decide))) ?_)
  rintro _ w33 ⟨t34, e35, rfl, hq36, hf37⟩
  obtain rfl : e35 = 0 := hq36.good.1.2 ⟨by decide, aw_ok⟩
  obtain rfl : t34 = awT := (hq36.good.2.1 rfl).trans aw_text
  refine ⟨_, rfl, ?_⟩
  have hp38 := hp17.step hf37
  refine OPS.batch 5 {} [] [1, 4, 5] [.string ⟨#[112, 117, 116, 32, 49, 32, 54, 98, 32, 55, 56, 10, 103, 101, 116, 32, 45, 51, 32, 45, 10, 99, 114, 97, 115, 104, 32, 48, 32, 49, 32, 45, 49, 10, 114, 111, 117, 110, 100, 32, 57, 32, 53, 10, 98, 117, 114, 115, 116, 32, 50, 32, 55, 32, 52, 50, 57, 52, 57, 54, 55, 50, 57, 53, 10]⟩, .int .i64 0, .string awT] .nil (by kernel_rfl) (fun b39 => ?_)
  refine OPS.nil ?_
  refine thn_n ?_
  refine WP.seq ?_
  refine WP.pure { wraps := [71], subs := [70] } [.bool true] [0] [.bool true] (.cons (show (.bool (decide (awT = ⟨#[112, 117, 116, 32, 49, 32, 54, 98, 32, 55, 56, 10, 103, 101, 116, 32, 45, 51, 32, 45, 10, 99, 114, 97, 115, 104, 32, 48, 32, 49, 32, 45, 49, 10, 114, 111, 117, 110, 100, 32, 57, 32, 53, 10, 98, 117, 114, 115, 116, 32, 50, 32, 55, 32, 52, 50, 57, 52, 57, 54, 55, 50, 57, 53, 10]⟩)) : Go.Value) = .bool true from congrArg Value.bool (decide_eq_true (by first | rfl | assumption | omega))) .nil) (by kernel_rfl) (fun b40 => ?_)
  refine thn_n ?_
  refine WP.ret ?_
  refine bodyQ.of _ rfl [.bool true] ⟨rfl, trivial⟩ ?_
  exact ⟨rfl, hp38.fr⟩

end Go.Proofs.YtbpedjefoajegaaDoor.K
