/- The walks of CfgW: what each function computes. -/
import Derived.Test.YtpmcjhjlajmljaaDoorRRRRProg
import Derived.Test.YtpmcjhjlajmljaaDoorRRRRCoreO
import Derived.Test.YtpmcjhjlajmljaaDoorRRRRStcS
import Derived.Test.YtpmcjhjlajmljaaDoorRRRRTagX
import Derived.Test.YtpmcjhjlajmljaaDoorRRRRCoreQ
import Derived.Test.YtpmcjhjlajmljaaDoorRRRRCoreT
import Derived.Test.YtpmcjhjlajmljaaDoorRRRRCoreU
namespace Go.Proofs.YtpmcjhjlajmljaaDoorRRRR.K
open Go Go.Proofs Go.RowKit
set_option linter.unusedVariables false
set_option linter.unusedSimpArgs false
set_option maxRecDepth 20000
set_option maxHeartbeats 4000000

theorem w_next (w0 : World) (L : List Res) (wb gb : Nat) (h : SlH) (ws : List ByteArray) (bad : Bool) (w : World) (hp0 : Hp w0 Non (Res.row wb [.slice h.a h.n h.c, .bool bad] 77 :: Res.lst gb h ws :: L) w) :
    Calls Tryd.prog 45 #[.pointer (some ⟨wb, 0, none⟩)] w (fun r_ w' => ∃ h', r_ = .returned (.string (ws.headD ByteArray.empty)) ∧ Hp w0 Non (Res.row wb [.slice h'.a h'.n h'.c, .bool (bad || ws.isEmpty)] 77 :: Res.lst gb h' ws.tail :: L) w') := by
  have hln := lst_len hp0.get1
  refine calls_of Tryd.func45 rfl 28 rfl (by simp) ?_
  have he0 : List.map (env0 [.pointer (some ⟨wb, 0, none⟩)]) [0] = [.pointer (some ⟨wb, 0, none⟩)] := by kernel_rfl
  obtain ⟨b0, he0⟩ := toMk he0
  rw [he0]
  clear he0
  refine WP.seq ?_
  refine WP.pure {} [] [0] [.pointer (some ⟨wb, 0, none⟩)] .nil (by kernel_rfl) (fun b1 => ?_)
  refine thn_n ?_
  refine WP.seq ?_
  refine WP.seq ?_
  refine WP.pure {} [.slice h.a h.n h.c] [0, 9] [.pointer (some ⟨wb, 0, none⟩), .bool (decide (((h.n : Nat) : Int) = 0))] (.cons (Ld.row1 (P := Tryd.prog) (t := 59) (o := 0) (v := .slice h.a h.n h.c) hp0.get0 (by kernel_rfl)) .nil) (by kernel_rfl) (fun b2 => ?_)
  refine thn_n ?_
  refine WP.test (p := ((h.n : Nat) : Int) = 0) rfl Bp.dec (fun h3 => ?_) (fun h3 => ?_)
  · refine WP.seq ?_
    refine WP.region _ rfl (by kernel_rfl) ?_
    refine OPS.batch 3 {} [] [12] [.pointer (some ⟨wb, 1, none⟩)] .nil (by kernel_rfl) (fun b4 => ?_)
    refine OPS.cons (opStep.store0 hp0 rfl [.bool true] [.slice h.a h.n h.c, .bool true] (by kernel_rfl) (fun w5 hp6 => ?_))
    refine OPS.nil ?_
    refine thn_n ?_
    refine WP.seq ?_
    refine WP.pure {} [] [2] [.string ⟨#[]⟩] .nil (by kernel_rfl) (fun b7 => ?_)
    refine thn_n ?_
    refine WP.ret ?_
    refine thn_r ?_
    refine bodyQ.of _ rfl [.string ⟨#[]⟩] ⟨rfl, trivial⟩ ?_
    have hws : ws = [] := List.eq_nil_of_length_eq_zero (by omega)
    subst hws
    refine ⟨h, rfl, ?_⟩
    rw [show (bad || ([] : List ByteArray).isEmpty) = true from by simp]
    exact hp6
  · refine WP.skip ?_
    refine thn_n ?_
    refine WP.seq ?_
    have hy9 : (ws)[0]? = some ws[0]! := get_bang (by first | (omega) | (simp only [List.length_append, List.length_cons, List.length_nil]; omega) | (simp only [List.length_take, List.length_append, List.length_cons, List.length_nil]; omega))
    refine WP.pure {} [.slice h.a h.n h.c, .string (ws[0]!)] [0, 3] [.pointer (some ⟨wb, 0, none⟩), .string (ws[0]!)] (.cons (Ld.row1 (P := Tryd.prog) (t := 59) (o := 0) (v := .slice h.a h.n h.c) hp0.get0 (by kernel_rfl)) (.cons (show InB (0) (h.n) from ⟨by omega, by omega⟩) (.cons ((lst_slr hp0.get1).some (by omega)) (.cons (Ld.add0 (Ld.el1 (P := Tryd.prog) (t := 9) (lst_slr hp0.get1).rd 1 (fun _ => rfl) hy9 (o := 0) (v := .string (ws[0]!)) (by kernel_rfl))) .nil)))) (by kernel_rfl) (fun b10 => ?_)
    refine thn_n ?_
    refine WP.seq ?_
    refine WP.region _ rfl (by kernel_rfl) ?_
    refine OPS.batch 8 {} [.slice h.a h.n h.c] [3, 24, 26] [.string (ws[0]!), .slice (slOff h.a h.c (1) 1) (h.n - 1) (h.c - 1), .pointer (some ⟨wb, 0, none⟩)] (.cons (Ld.row1 (P := Tryd.prog) (t := 59) (o := 0) (v := .slice h.a h.n h.c) hp0.get0 (by kernel_rfl)) (.cons (show (0 : Int) ≤ 1 ∧ 1 ≤ ((h.n : Nat) : Int) from ⟨by omega, by omega⟩) .nil)) (by kernel_rfl) (fun b11 => ?_)
    refine OPS.cons (opStep.store0 hp0 rfl [.slice (slOff h.a h.c (1) 1) (h.n - 1) (h.c - 1)] [.slice (slOff h.a h.c (1) 1) (h.n - 1) (h.c - 1), .bool bad] (by kernel_rfl) (fun w12 hp13 => ?_))
    refine OPS.nil ?_
    refine thn_n ?_
    refine WP.seq ?_
    refine WP.pure {} [] [2] [.string (ws[0]!)] .nil (by kernel_rfl) (fun b14 => ?_)
    refine thn_n ?_
    refine WP.ret ?_
    refine bodyQ.of _ rfl [.string (ws[0]!)] ⟨rfl, trivial⟩ ?_
    have hp15 := hp13.turn1 (Res.lst gb ⟨slOff h.a h.c 1 1, h.n - 1, h.c - 1⟩ ws.tail) (lst_tail (by omega)) (fun _ hb => hb)
    cases ws with
    | nil => simp at hln; omega
    | cons x r => exact ⟨⟨slOff h.a h.c 1 1, h.n - 1, h.c - 1⟩, rfl, by rw [show (bad || (x :: r).isEmpty) = bad from by simp]; exact hp15⟩

theorem w_number (w0 : World) (L : List Res) (wb gb : Nat) (h : SlH) (ws : List ByteArray) (bad : Bool) (w : World) (hl : LibP w0) (hsz : ∀ x ∈ ws, x.size ≤ 281474976710656) (hp0 : Hp w0 Non (Res.row wb [.slice h.a h.n h.c, .bool bad] 77 :: Res.lst gb h ws :: L) w) :
    Calls Tryd.prog 46 #[.pointer (some ⟨wb, 0, none⟩)] w (fun r_ w' => ∃ h' v b', r_ = .returned (.int .i64 v) ∧ NumR bad ws v b' ∧ Hp w0 Non (Res.row wb [.slice h'.a h'.n h'.c, .bool b'] 77 :: Res.lst gb h' ws.tail :: L) w') := by
  refine calls_of Tryd.func46 rfl 23 rfl (by simp) ?_
  have he0 : List.map (env0 [.pointer (some ⟨wb, 0, none⟩)]) [0] = [.pointer (some ⟨wb, 0, none⟩)] := by kernel_rfl
  obtain ⟨b0, he0⟩ := toMk he0
  rw [he0]
  clear he0
  refine WP.seq ?_
  refine WP.pure {} [] [0] [.pointer (some ⟨wb, 0, none⟩)] .nil (by kernel_rfl) (fun b1 => ?_)
  refine thn_n ?_
  refine WP.seq ?_
  refine WP.region _ rfl (by kernel_rfl) ?_
  refine OPS.batch 1 {} [] [0, 6] [.pointer (some ⟨wb, 0, none⟩), .pointer (some ⟨wb, 0, none⟩)] .nil (by kernel_rfl) (fun b2 => ?_)
  have hp5 := hp0.pull1
  have hp6 := hp5.pull1
  refine OPS.cons (opStep.call (some 7) [.pointer (some ⟨wb, 0, none⟩)] (by kernel_rfl) (w_next _ _ wb gb h ws bad _ hp6) ?_)
  rintro _ w7 ⟨h9, rfl, hp8⟩
  refine ⟨_, rfl, ?_⟩
  refine OPS.cons (opStep.call (some 8) [.string (ws.headD ByteArray.empty)] (by kernel_rfl) (atoi_b (ws.headD ByteArray.empty) (head_size hsz) _ (hl.fram hp8.fr)) ?_)
  rintro _ w12 ⟨v15, _, rfl, hv16r, (⟨rfl, hv16⟩ | ⟨⟨te17, ge18, rfl⟩, hv16⟩), hf13⟩
  · refine ⟨_, rfl, ?_⟩
    have hp14 := hp8.step hf13
    refine OPS.batch 5 {} [] [0, 3, 4] [.pointer (some ⟨wb, 0, none⟩), .int .i64 v15, .nilIface] .nil (by kernel_rfl) (fun b19 => ?_)
    refine OPS.nil ?_
    refine thn_n ?_
    refine WP.seq ?_
    refine WP.region _ rfl (by kernel_rfl) ?_
    refine OPS.batch 6 {} [.bool (bad || ws.isEmpty)] [3, 4, 11, 16] [.int .i64 v15, .nilIface, .pointer (some ⟨wb, 0, none⟩), .bool (bad || ws.isEmpty)] (.cons (Ld.row1 (P := Tryd.prog) (t := 4) (o := 1) (v := .bool (bad || ws.isEmpty)) hp14.get0 (by kernel_rfl)) .nil) (by kernel_rfl) (fun b20 => ?_)
    by_cases h21 : (bad || ws.isEmpty) = true
    · refine OPS.batch 0 {} [] [3, 4, 11, 16] [.int .i64 v15, .nilIface, .pointer (some ⟨wb, 0, none⟩), .bool (bad || ws.isEmpty)] .nil (by kernel_rfl) (fun b22 => ?_)
      refine OPS.re [.int .i64 v15, .nilIface, .pointer (some ⟨wb, 0, none⟩), .bool true] (by rw [show (bad || ws.isEmpty) = true from Bp.var.tt h21]) ?_
      refine OPS.batch 5 { wraps := [19] } [] [3, 19, 21] [.int .i64 v15, .bool true, .pointer (some ⟨wb, 1, none⟩)] .nil (by kernel_rfl) (fun b23 => ?_)
      refine OPS.cons (opStep.store0 hp14 rfl [.bool true] [.slice h9.a h9.n h9.c, .bool true] (by kernel_rfl) (fun w24 hp25 => ?_))
      refine OPS.nil ?_
      refine thn_n ?_
      refine WP.seq ?_
      refine WP.pure {} [] [2] [.int .i64 v15] .nil (by kernel_rfl) (fun b26 => ?_)
      refine thn_n ?_
      refine WP.ret ?_
      refine bodyQ.of _ rfl [.int .i64 v15] ⟨rfl, trivial⟩ ?_
      exact ⟨h9, v15, _, rfl, num_of hv16r (.inl ⟨rfl, h21⟩), hp25⟩
    · refine OPS.batch 0 {} [] [3, 4, 11, 16] [.int .i64 v15, .nilIface, .pointer (some ⟨wb, 0, none⟩), .bool (bad || ws.isEmpty)] .nil (by kernel_rfl) (fun b27 => ?_)
      refine OPS.re [.int .i64 v15, .nilIface, .pointer (some ⟨wb, 0, none⟩), .bool false] (by rw [show (bad || ws.isEmpty) = false from Bp.var.ff h21]) ?_
      refine OPS.batch 5 { wraps := [19] } [] [3, 19, 21] [.int .i64 v15, .bool false, .pointer (some ⟨wb, 1, none⟩)] .nil (by kernel_rfl) (fun b28 => ?_)
      refine OPS.cons (opStep.store0 hp14 rfl [.bool false] [.slice h9.a h9.n h9.c, .bool false] (by kernel_rfl) (fun w29 hp30 => ?_))
      refine OPS.nil ?_
      refine thn_n ?_
      refine WP.seq ?_
      refine WP.pure {} [] [2] [.int .i64 v15] .nil (by kernel_rfl) (fun b31 => ?_)
      refine thn_n ?_
      refine WP.ret ?_
      refine bodyQ.of _ rfl [.int .i64 v15] ⟨rfl, trivial⟩ ?_
      exact ⟨h9, v15, _, rfl, num_of hv16r (.inr ⟨h21, .inr ⟨rfl, hv16⟩⟩), hp30⟩
  · refine ⟨_, rfl, ?_⟩
    have hp14 := hp8.step hf13
    refine OPS.batch 5 {} [] [0, 3, 4] [.pointer (some ⟨wb, 0, none⟩), .int .i64 v15, .iface te17 (.pointer (some ⟨ge18, 0, none⟩))] .nil (by kernel_rfl) (fun b32 => ?_)
    refine OPS.nil ?_
    refine thn_n ?_
    refine WP.seq ?_
    refine WP.region _ rfl (by kernel_rfl) ?_
    refine OPS.batch 6 {} [.bool (bad || ws.isEmpty)] [3, 4, 11, 16] [.int .i64 v15, .iface te17 (.pointer (some ⟨ge18, 0, none⟩)), .pointer (some ⟨wb, 0, none⟩), .bool (bad || ws.isEmpty)] (.cons (Ld.row1 (P := Tryd.prog) (t := 4) (o := 1) (v := .bool (bad || ws.isEmpty)) hp14.get0 (by kernel_rfl)) .nil) (by kernel_rfl) (fun b33 => ?_)
    by_cases h34 : (bad || ws.isEmpty) = true
    · refine OPS.batch 0 {} [] [3, 4, 11, 16] [.int .i64 v15, .iface te17 (.pointer (some ⟨ge18, 0, none⟩)), .pointer (some ⟨wb, 0, none⟩), .bool (bad || ws.isEmpty)] .nil (by kernel_rfl) (fun b35 => ?_)
      refine OPS.re [.int .i64 v15, .iface te17 (.pointer (some ⟨ge18, 0, none⟩)), .pointer (some ⟨wb, 0, none⟩), .bool true] (by rw [show (bad || ws.isEmpty) = true from Bp.var.tt h34]) ?_
      refine OPS.batch 5 { wraps := [19] } [] [3, 19, 21] [.int .i64 v15, .bool true, .pointer (some ⟨wb, 1, none⟩)] .nil (by kernel_rfl) (fun b36 => ?_)
      refine OPS.cons (opStep.store0 hp14 rfl [.bool true] [.slice h9.a h9.n h9.c, .bool true] (by kernel_rfl) (fun w37 hp38 => ?_))
      refine OPS.nil ?_
      refine thn_n ?_
      refine WP.seq ?_
      refine WP.pure {} [] [2] [.int .i64 v15] .nil (by kernel_rfl) (fun b39 => ?_)
      refine thn_n ?_
      refine WP.ret ?_
      refine bodyQ.of _ rfl [.int .i64 v15] ⟨rfl, trivial⟩ ?_
      exact ⟨h9, v15, _, rfl, num_of hv16r (.inl ⟨rfl, h34⟩), hp38⟩
    · refine OPS.batch 0 {} [] [3, 4, 11, 16] [.int .i64 v15, .iface te17 (.pointer (some ⟨ge18, 0, none⟩)), .pointer (some ⟨wb, 0, none⟩), .bool (bad || ws.isEmpty)] .nil (by kernel_rfl) (fun b40 => ?_)
      refine OPS.re [.int .i64 v15, .iface te17 (.pointer (some ⟨ge18, 0, none⟩)), .pointer (some ⟨wb, 0, none⟩), .bool false] (by rw [show (bad || ws.isEmpty) = false from Bp.var.ff h34]) ?_
      refine OPS.batch 5 { wraps := [19] } [] [3, 19, 21] [.int .i64 v15, .bool true, .pointer (some ⟨wb, 1, none⟩)] .nil (by kernel_rfl) (fun b41 => ?_)
      refine OPS.cons (opStep.store0 hp14 rfl [.bool true] [.slice h9.a h9.n h9.c, .bool true] (by kernel_rfl) (fun w42 hp43 => ?_))
      refine OPS.nil ?_
      refine thn_n ?_
      refine WP.seq ?_
      refine WP.pure {} [] [2] [.int .i64 v15] .nil (by kernel_rfl) (fun b44 => ?_)
      refine thn_n ?_
      refine WP.ret ?_
      refine bodyQ.of _ rfl [.int .i64 v15] ⟨rfl, trivial⟩ ?_
      exact ⟨h9, v15, _, rfl, num_of hv16r (.inr ⟨h34, .inl ⟨rfl, hv16⟩⟩), hp43⟩

end Go.Proofs.YtpmcjhjlajmljaaDoorRRRR.K
