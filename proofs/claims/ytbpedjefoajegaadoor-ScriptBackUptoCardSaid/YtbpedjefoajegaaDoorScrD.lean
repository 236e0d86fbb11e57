/- The walks of ScrD: what each function computes. -/
import Derived.Test.YtbpedjefoajegaaDoorProg
import Derived.Test.YtbpedjefoajegaaDoorCoreO
import Derived.Test.YtbpedjefoajegaaDoorScrC
import Derived.Test.YtbpedjefoajegaaDoorCoreT
import Derived.Test.YtbpedjefoajegaaDoorCoreU
namespace Go.Proofs.YtbpedjefoajegaaDoor.K
open Go Go.Proofs Go.RowKit
set_option linter.unusedVariables false
set_option linter.unusedSimpArgs false
set_option maxRecDepth 20000
set_option maxHeartbeats 4000000

theorem w_next (w0 : World) (L : List Res) (wb gb : Nat) (h : SlH) (ws : List ByteArray) (bad : Bool) (w : World) (hp0 : Hp w0 Non (Res.row wb [.slice h.a h.n h.c, .bool bad] 75 :: Res.lst gb h ws :: L) w) :
    Calls Tryd.prog 40 #[.pointer (some ⟨wb, 0, none⟩)] w (fun r_ w' => ∃ h', r_ = .returned (.string (ws.headD ByteArray.empty)) ∧ Hp w0 Non (Res.row wb [.slice h'.a h'.n h'.c, .bool (bad || ws.isEmpty)] 75 :: Res.lst gb h' ws.tail :: L) w') := by
  have hln := lst_len hp0.get1
  refine calls_of Tryd.func40 rfl 28 rfl (by simp) ?_
  have he0 : List.map (env0 [.pointer (some ⟨wb, 0, none⟩)]) [0] = [.pointer (some ⟨wb, 0, none⟩)] := by kernel_rfl
  obtain ⟨b0, he0⟩ := toMk he0
  rw [he0]
  clear he0
  refine WP.seq ?_
  refine WP.pure {} [] [0] [.pointer (some ⟨wb, 0, none⟩)] .nil (by kernel_rfl) (fun b1 => ?_)
  refine thn_n ?_
  refine WP.seq ?_
  refine WP.seq ?_
  refine WP.pure {} [.slice h.a h.n h.c] [0, 9] [.pointer (some ⟨wb, 0, none⟩), .bool (decide (((h.n : Nat) : Int) = 0))] (.cons (Ld.row1 (P := Tryd.prog) (t := 36) (o := 0) (v := .slice h.a h.n h.c) hp0.get0 (by kernel_rfl)) .nil) (by kernel_rfl) (fun b2 => ?_)
  refine thn_n ?_
  refine WP.test (p := ((h.n : Nat) : Int) = 0) rfl Bp.dec (fun h3 => ?_) (fun h3 => ?_)
  · refine WP.seq ?_
    refine WP.region _ rfl (by kernel_rfl) ?_
    refine OPS.batch 3 {} [] [12] [.pointer (some ⟨wb, 1, none⟩)] .nil (by kernel_rfl) (fun b4 => ?_)
    refine OPS.cons (opStep.store0 hp0 rfl [.bool true] [.slice h.a h.n h.c, .bool true] (by kernel_rfl) (fun w5 hp6 => ?_))
    refine OPS.nil ?_
    refine thn_n ?_
    refine WP.seq ?_
    refine WP.pure {} [] [2] [.string ⟨#[]⟩] .nil (by kernel_rfl) (fun b7 => ?_)
    refine thn_n ?_
    refine WP.ret ?_
    refine thn_r ?_
    refine bodyQ.of _ rfl [.string ⟨#[]⟩] ⟨rfl, trivial⟩ ?_
    have hws : ws = [] := List.eq_nil_of_length_eq_zero (by omega)
    subst hws
    refine ⟨h, rfl, ?_⟩
    rw [show (bad || ([] : List ByteArray).isEmpty) = true from by simp]
    exact hp6
  · refine WP.skip ?_
    refine thn_n ?_
    refine WP.seq ?_
    have hy9 : (ws)[0]? = some ws[0]! := get_bang (by first | (omega) | (simp only [List.length_append, List.length_cons, List.length_nil]; omega) | (simp only [List.length_take, List.length_append, List.length_cons, List.length_nil]; omega))
    refine WP.pure {} [.slice h.a h.n h.c, .string (ws[0]!)] [0, 3] [.pointer (some ⟨wb, 0, none⟩), .string (ws[0]!)] (.cons (Ld.row1 (P := Tryd.prog) (t := 36) (o := 0) (v := .slice h.a h.n h.c) hp0.get0 (by kernel_rfl)) (.cons (show InB (0) (h.n) from ⟨by omega, by omega⟩) (.cons ((lst_slr hp0.get1).some (by omega)) (.cons (Ld.add0 (Ld.el1 (P := Tryd.prog) (t := 9) (lst_slr hp0.get1).rd 1 (fun _ => rfl) hy9 (o := 0) (v := .string (ws[0]!)) (by kernel_rfl))) .nil)))) (by kernel_rfl) (fun b10 => ?_)
    refine thn_n ?_
    refine WP.seq ?_
    refine WP.region _ rfl (by kernel_rfl) ?_
    refine OPS.batch 8 {} [.slice h.a h.n h.c] [3, 24, 26] [.string (ws[0]!), .slice (slOff h.a h.c (1) 1) (h.n - 1) (h.c - 1), .pointer (some ⟨wb, 0, none⟩)] (.cons (Ld.row1 (P := Tryd.prog) (t := 36) (o := 0) (v := .slice h.a h.n h.c) hp0.get0 (by kernel_rfl)) (.cons (show (0 : Int) ≤ 1 ∧ 1 ≤ ((h.n : Nat) : Int) from ⟨by omega, by omega⟩) .nil)) (by kernel_rfl) (fun b11 => ?_)
    refine OPS.cons (opStep.store0 hp0 rfl [.slice (slOff h.a h.c (1) 1) (h.n - 1) (h.c - 1)] [.slice (slOff h.a h.c (1) 1) (h.n - 1) (h.c - 1), .bool bad] (by kernel_rfl) (fun w12 hp13 => ?_))
    refine OPS.nil ?_
    refine thn_n ?_
    refine WP.seq ?_
    refine WP.pure {} [] [2] [.string (ws[0]!)] .nil (by kernel_rfl) (fun b14 => ?_)
    refine thn_n ?_
    refine WP.ret ?_
    refine bodyQ.of _ rfl [.string (ws[0]!)] ⟨rfl, trivial⟩ ?_
    have hp15 := hp13.turn1 (Res.lst gb ⟨slOff h.a h.c 1 1, h.n - 1, h.c - 1⟩ ws.tail) (lst_tail (by omega)) (fun _ hb => hb)
    cases ws with
    | nil => simp at hln; omega
    | cons x r => exact ⟨⟨slOff h.a h.c 1 1, h.n - 1, h.c - 1⟩, rfl, by rw [show (bad || (x :: r).isEmpty) = bad from by simp]; exact hp15⟩

theorem w_number (w0 : World) (L : List Res) (wb gb : Nat) (h : SlH) (ws : List ByteArray) (bad : Bool) (w : World) (hl : LibP w0) (hsz : ∀ x ∈ ws, x.size ≤ 281474976710656) (hp0 : Hp w0 Non (Res.row wb [.slice h.a h.n h.c, .bool bad] 75 :: Res.lst gb h ws :: L) w) :
    Calls Tryd.prog 41 #[.pointer (some ⟨wb, 0, none⟩)] w (fun r_ w' => ∃ h' v b', r_ = .returned (.int .i64 v) ∧ NumR bad ws v b' ∧ Hp w0 Non (Res.row wb [.slice h'.a h'.n h'.c, .bool b'] 75 :: Res.lst gb h' ws.tail :: L) w') := by
  refine calls_of Tryd.func41 rfl 23 rfl (by simp) ?_
  have he0 : List.map (env0 [.pointer (some ⟨wb, 0, none⟩)]) [0] = [.pointer (some ⟨wb, 0, none⟩)] := by kernel_rfl
  obtain ⟨b0, he0⟩ := toMk he0
  rw [he0]
  clear he0
  refine WP.seq ?_
  refine WP.pure {} [] [0] [.pointer (some ⟨wb, 0, none⟩)] .nil (by kernel_rfl) (fun b1 => ?_)
  refine thn_n ?_
  refine WP.seq ?_
  refine WP.region _ rfl (by kernel_rfl) ?_
  refine OPS.batch 1 {} [] [0, 6] [.pointer (some ⟨wb, 0, none⟩), .pointer (some ⟨wb, 0, none⟩)] .nil (by kernel_rfl) (fun b2 => ?_)
  have hp5 := hp0.pull1
  have hp6 := hp5.pull1
  refine OPS.cons (opStep.call (some 7) [.pointer (some ⟨wb, 0, none⟩)] (by kernel_rfl) (w_next _ _ wb gb h ws bad _ hp6) ?_)
  rintro _ w7 ⟨h9, rfl, hp8⟩
  refine ⟨_, rfl, ?_⟩
  refine OPS.cons (opStep.call (some 8) [.string (ws.headD ByteArray.empty)] (by kernel_rfl) (atoi_b (ws.headD ByteArray.empty) (head_size hsz) _ (hl.fram hp8.fr)) ?_)
  rintro _ w12 ⟨v15, _, rfl, hv16r, (⟨rfl, hv16⟩ | ⟨⟨te17, ge18, rfl⟩, hv16⟩), hf13⟩
  · refine ⟨_, rfl, ?_⟩
    have hp14 := hp8.step hf13
    refine OPS.batch 5 {} [] [0, 3, 4] [.pointer (some ⟨wb, 0, none⟩), .int .i64 v15, .nilIface] .nil (by kernel_rfl) (fun b19 => ?_)
    refine OPS.nil ?_
    refine thn_n ?_
    refine WP.seq ?_
    refine WP.region _ rfl (by kernel_rfl) ?_
    refine OPS.batch 6 {} [.bool (bad || ws.isEmpty)] [3, 4, 11, 16] [.int .i64 v15, .nilIface, .pointer (some ⟨wb, 0, none⟩), .bool (bad || ws.isEmpty)] (.cons (Ld.row1 (P := Tryd.prog) (t := 4) (o := 1) (v := .bool (bad || ws.isEmpty)) hp14.get0 (by kernel_rfl)) .nil) (by kernel_rfl) (fun b20 => ?_)
    by_cases h21 : (bad || ws.isEmpty) = true
    · refine OPS.batch 0 {} [] [3, 4, 11, 16] [.int .i64 v15, .nilIface, .pointer (some ⟨wb, 0, none⟩), .bool (bad || ws.isEmpty)] .nil (by kernel_rfl) (fun b22 => ?_)
      refine OPS.re [.int .i64 v15, .nilIface, .pointer (some ⟨wb, 0, none⟩), .bool true] (by rw [show (bad || ws.isEmpty) = true from Bp.var.tt h21]) ?_
      refine OPS.batch 5 { wraps := [19] } [] [3, 19, 21] [.int .i64 v15, .bool true, .pointer (some ⟨wb, 1, none⟩)] .nil (by kernel_rfl) (fun b23 => ?_)
      refine OPS.cons (opStep.store0 hp14 rfl [.bool true] [.slice h9.a h9.n h9.c, .bool true] (by kernel_rfl) (fun w24 hp25 => ?_))
      refine OPS.nil ?_
      refine thn_n ?_
      refine WP.seq ?_
      refine WP.pure {} [] [2] [.int .i64 v15] .nil (by kernel_rfl) (fun b26 => ?_)
      refine thn_n ?_
      refine WP.ret ?_
      refine bodyQ.of _ rfl [.int .i64 v15] ⟨rfl, trivial⟩ ?_
      exact ⟨h9, v15, _, rfl, num_of hv16r (.inl ⟨rfl, h21⟩), hp25⟩
    · refine OPS.batch 0 {} [] [3, 4, 11, 16] [.int .i64 v15, .nilIface, .pointer (some ⟨wb, 0, none⟩), .bool (bad || ws.isEmpty)] .nil (by kernel_rfl) (fun b27 => ?_)
      refine OPS.re [.int .i64 v15, .nilIface, .pointer (some ⟨wb, 0, none⟩), .bool false] (by rw [show (bad || ws.isEmpty) = false from Bp.var.ff h21]) ?_
      refine OPS.batch 5 { wraps := [19] } [] [3, 19, 21] [.int .i64 v15, .bool false, .pointer (some ⟨wb, 1, none⟩)] .nil (by kernel_rfl) (fun b28 => ?_)
      refine OPS.cons (opStep.store0 hp14 rfl [.bool false] [.slice h9.a h9.n h9.c, .bool false] (by kernel_rfl) (fun w29 hp30 => ?_))
      refine OPS.nil ?_
      refine thn_n ?_
      refine WP.seq ?_
      refine WP.pure {} [] [2] [.int .i64 v15] .nil (by kernel_rfl) (fun b31 => ?_)
      refine thn_n ?_
      refine WP.ret ?_
      refine bodyQ.of _ rfl [.int .i64 v15] ⟨rfl, trivial⟩ ?_
      exact ⟨h9, v15, _, rfl, num_of hv16r (.inr ⟨h21, .inr ⟨rfl, hv16⟩⟩), hp30⟩
  · refine ⟨_, rfl, ?_⟩
    have hp14 := hp8.step hf13
    refine OPS.batch 5 {} [] [0, 3, 4] [.pointer (some ⟨wb, 0, none⟩), .int .i64 v15, .iface te17 (.pointer (some ⟨ge18, 0, none⟩))] .nil (by kernel_rfl) (fun b32 => ?_)
    refine OPS.nil ?_
    refine thn_n ?_
    refine WP.seq ?_
    refine WP.region _ rfl (by kernel_rfl) ?_
    refine OPS.batch 6 {} [.bool (bad || ws.isEmpty)] [3, 4, 11, 16] [.int .i64 v15, .iface te17 (.pointer (some ⟨ge18, 0, none⟩)), .pointer (some ⟨wb, 0, none⟩), .bool (bad || ws.isEmpty)] (.cons (Ld.row1 (P := Tryd.prog) (t := 4) (o := 1) (v := .bool (bad || ws.isEmpty)) hp14.get0 (by kernel_rfl)) .nil) (by kernel_rfl) (fun b33 => ?_)
    by_cases h34 : (bad || ws.isEmpty) = true
    · refine OPS.batch 0 {} [] [3, 4, 11, 16] [.int .i64 v15, .iface te17 (.pointer (some ⟨ge18, 0, none⟩)), .pointer (some ⟨wb, 0, none⟩), .bool (bad || ws.isEmpty)] .nil (by kernel_rfl) (fun b35 => ?_)
      refine OPS.re [.int .i64 v15, .iface te17 (.pointer (some ⟨ge18, 0, none⟩)), .pointer (some ⟨wb, 0, none⟩), .bool true] (by rw [show (bad || ws.isEmpty) = true from Bp.var.tt h34]) ?_
      refine OPS.batch 5 { wraps := [19] } [] [3, 19, 21] [.int .i64 v15, .bool true, .pointer (some ⟨wb, 1, none⟩)] .nil (by kernel_rfl) (fun b36 => ?_)
      refine OPS.cons (opStep.store0 hp14 rfl [.bool true] [.slice h9.a h9.n h9.c, .bool true] (by kernel_rfl) (fun w37 hp38 => ?_))
      refine OPS.nil ?_
      refine thn_n ?_
      refine WP.seq ?_
      refine WP.pure {} [] [2] [.int .i64 v15] .nil (by kernel_rfl) (fun b39 => ?_)
      refine thn_n ?_
      refine WP.ret ?_
      refine bodyQ.of _ rfl [.int .i64 v15] ⟨rfl, trivial⟩ ?_
      exact ⟨h9, v15, _, rfl, num_of hv16r (.inl ⟨rfl, h34⟩), hp38⟩
    · refine OPS.batch 0 {} [] [3, 4, 11, 16] [.int .i64 v15, .iface te17 (.pointer (some ⟨ge18, 0, none⟩)), .pointer (some ⟨wb, 0, none⟩), .bool (bad || ws.isEmpty)] .nil (by kernel_rfl) (fun b40 => ?_)
      refine OPS.re [.int .i64 v15, .iface te17 (.pointer (some ⟨ge18, 0, none⟩)), .pointer (some ⟨wb, 0, none⟩), .bool false] (by rw [show (bad || ws.isEmpty) = false from Bp.var.ff h34]) ?_
      refine OPS.batch 5 { wraps := [19] } [] [3, 19, 21] [.int .i64 v15, .bool true, .pointer (some ⟨wb, 1, none⟩)] .nil (by kernel_rfl) (fun b41 => ?_)
      refine OPS.cons (opStep.store0 hp14 rfl [.bool true] [.slice h9.a h9.n h9.c, .bool true] (by kernel_rfl) (fun w42 hp43 => ?_))
      refine OPS.nil ?_
      refine thn_n ?_
      refine WP.seq ?_
      refine WP.pure {} [] [2] [.int .i64 v15] .nil (by kernel_rfl) (fun b44 => ?_)
      refine thn_n ?_
      refine WP.ret ?_
      refine bodyQ.of _ rfl [.int .i64 v15] ⟨rfl, trivial⟩ ?_
      exact ⟨h9, v15, _, rfl, num_of hv16r (.inr ⟨h34, .inl ⟨rfl, hv16⟩⟩), hp43⟩

theorem byt_of {bad : Bool} {ws : List ByteArray} {v : ByteArray} {b' : Bool} (h : (ws.headD ByteArray.empty = (⟨#[45]⟩ : ByteArray) ∧ v = ⟨#[]⟩ ∧ b' = (bad || ws.isEmpty)) ∨ (¬ ws.headD ByteArray.empty = (⟨#[45]⟩ : ByteArray) ∧ ∃ xs ok, (UnR (ws.headD ByteArray.empty) xs ok ∧ xs.length ≤ (ws.headD ByteArray.empty).size) ∧ v = strOf xs ∧ (b' = true ↔ (bad || ws.isEmpty) = true ∨ ¬ ok = true))) : BytR bad ws v b' := by
  refine ⟨?_, fun t b hb hs ht => ?_⟩
  · rcases h with ⟨_, h1, _⟩ | ⟨_, xs, ok, h1, h2, _⟩
    · rw [h1]; exact Nat.zero_le _
    · rw [h2, strOf_len]; exact h1.2
  subst hb
  cases ws with
  | nil => simp at hs
  | cons x r =>
    simp only [List.head?_cons, Option.some.injEq] at hs
    subst hs
    simp only [List.headD_cons, List.isEmpty_cons, Bool.or_false] at h
    unfold hexT at ht
    split at ht
    · rename_i hn
      rcases h with ⟨_, h1, h2⟩ | ⟨h1, _⟩
      · exact ⟨h2, h1.trans (ba_ext (by rw [hn]))⟩
      · exact absurd ht h1
    · rename_i hn
      rcases h with ⟨h1, _⟩ | ⟨h1, xs, ok, h2, h3, h4⟩
      · have : hexT b = (⟨#[45]⟩ : ByteArray) := by unfold hexT; rw [if_neg hn, ← ht, h1]
        rw [show (⟨#[45]⟩ : ByteArray) = hexT ⟨#[]⟩ from rfl] at this
        exact absurd (by rw [hexT_inj this]) hn
      · obtain ⟨e1, e2⟩ := h2.1 b hn ht
        refine ⟨?_, h3.trans e2⟩
        cases b' with
        | false => rfl
        | true => rcases h4.1 rfl with q | q
                  · cases q
                  · exact absurd e1 q
theorem w_bytes (w0 : World) (L : List Res) (wb gb : Nat) (h : SlH) (ws : List ByteArray) (bad : Bool) (w : World) (hsz : ∀ x ∈ ws, x.size ≤ 1099511627776) (hp0 : Hp w0 Non (Res.row wb [.slice h.a h.n h.c, .bool bad] 75 :: Res.lst gb h ws :: L) w) :
    Calls Tryd.prog 48 #[.pointer (some ⟨wb, 0, none⟩)] w (fun r_ w' => ∃ h' v b', r_ = .returned (.string v) ∧ BytR bad ws v b' ∧ Hp w0 Non (Res.row wb [.slice h'.a h'.n h'.c, .bool b'] 75 :: Res.lst gb h' ws.tail :: L) w') := by
  refine calls_of Tryd.func48 rfl 28 rfl (by simp) ?_
  have he0 : List.map (env0 [.pointer (some ⟨wb, 0, none⟩)]) [0] = [.pointer (some ⟨wb, 0, none⟩)] := by kernel_rfl
  obtain ⟨b0, he0⟩ := toMk he0
  rw [he0]
  clear he0
  refine WP.seq ?_
  refine WP.pure {} [] [0] [.pointer (some ⟨wb, 0, none⟩)] .nil (by kernel_rfl) (fun b1 => ?_)
  refine thn_n ?_
  refine WP.seq ?_
  refine WP.region _ rfl (by kernel_rfl) ?_
  refine OPS.batch 1 {} [] [0, 6] [.pointer (some ⟨wb, 0, none⟩), .pointer (some ⟨wb, 0, none⟩)] .nil (by kernel_rfl) (fun b2 => ?_)
  have hp5 := hp0.pull1
  have hp6 := hp5.pull1
  refine OPS.cons (opStep.call (some 7) [.pointer (some ⟨wb, 0, none⟩)] (by kernel_rfl) (w_next _ _ wb gb h ws bad _ hp6) ?_)
  rintro _ w7 ⟨h9, rfl, hp8⟩
  refine ⟨_, rfl, ?_⟩
  refine OPS.batch 1 {} [] [0, 3] [.pointer (some ⟨wb, 0, none⟩), .string (ws.headD ByteArray.empty)] .nil (by kernel_rfl) (fun b10 => ?_)
  refine OPS.nil ?_
  refine thn_n ?_
  refine WP.seq ?_
  refine WP.seq ?_
  refine WP.pure {} [] [0, 3, 9] [.pointer (some ⟨wb, 0, none⟩), .string (ws.headD ByteArray.empty), .bool (decide ((ws.headD ByteArray.empty) = ⟨#[45]⟩))] .nil (by kernel_rfl) (fun b11 => ?_)
  refine thn_n ?_
  refine WP.test (p := (ws.headD ByteArray.empty) = ⟨#[45]⟩) rfl Bp.dec (fun h12 => ?_) (fun h12 => ?_)
  · refine WP.seq ?_
    refine WP.pure {} [] [2] [.string ⟨#[]⟩] .nil (by kernel_rfl) (fun b13 => ?_)
    refine thn_n ?_
    refine WP.ret ?_
    refine thn_r ?_
    refine bodyQ.of _ rfl [.string ⟨#[]⟩] ⟨rfl, trivial⟩ ?_
    exact ⟨h9, _, _, rfl, byt_of (.inl ⟨h12, rfl, rfl⟩), hp8⟩
  · refine WP.skip ?_
    refine thn_n ?_
    refine WP.seq ?_
    refine WP.region _ rfl (by kernel_rfl) ?_
    refine OPS.batch 1 {} [] [0, 11] [.pointer (some ⟨wb, 0, none⟩), .string (ws.headD ByteArray.empty)] .nil (by kernel_rfl) (fun b14 => ?_)
    refine OPS.cons (opStep.call (some 12) [.string (ws.headD ByteArray.empty)] (by kernel_rfl) (sc_unwritten (ws.headD ByteArray.empty) (by have h_ := head_size hsz; omega) _) ?_)
    rintro _ w17 ⟨a19, n20, c21, xs22, ok23, rfl, hu24, hp18⟩
    refine ⟨_, rfl, ?_⟩
    have hp25 := hp8.madeQ hp18
    simp only [List.cons_append, List.nil_append] at hp25
    refine OPS.batch 5 {} [] [0, 4, 5] [.pointer (some ⟨wb, 0, none⟩), .slice a19 n20 c21, .bool ok23] .nil (by kernel_rfl) (fun b26 => ?_)
    refine OPS.nil ?_
    refine thn_n ?_
    refine WP.cut (fun e40 w41 => ∃ (x38 : Bool), (True) ∧ Bp x38 ((((bad || ws.isEmpty) = true)) ∨ ((¬ ((bad || ws.isEmpty) = true)) ∧ (¬ (ok23 = true)))) ∧ List.map e40 [4] = [.slice a19 n20 c21] ∧ Hp w0 Non (Res.own 5 1 (.slice a19 n20 c21) n20 (List.flatMap u8c xs22) :: Res.row wb [.slice h9.a h9.n h9.c, .bool x38] 75 :: Res.lst gb h9 ws.tail :: L) w41) ?_ ?_
    · refine WP.region _ rfl (by kernel_rfl) ?_
      refine OPS.batch 6 {} [.bool (bad || ws.isEmpty)] [4, 5, 15, 20] [.slice a19 n20 c21, .bool ok23, .pointer (some ⟨wb, 0, none⟩), .bool (bad || ws.isEmpty)] (.cons (Ld.row1 (P := Tryd.prog) (t := 4) (o := 1) (v := .bool (bad || ws.isEmpty)) hp25.get1 (by kernel_rfl)) .nil) (by kernel_rfl) (fun b28 => ?_)
      by_cases h29 : (bad || ws.isEmpty) = true
      · refine OPS.batch 0 {} [] [4, 5, 15, 20] [.slice a19 n20 c21, .bool ok23, .pointer (some ⟨wb, 0, none⟩), .bool (bad || ws.isEmpty)] .nil (by kernel_rfl) (fun b30 => ?_)
        refine OPS.re [.slice a19 n20 c21, .bool ok23, .pointer (some ⟨wb, 0, none⟩), .bool true] (by rw [show (bad || ws.isEmpty) = true from Bp.var.tt h29]) ?_
        refine OPS.batch 5 { wraps := [23] } [] [4, 23, 25] [.slice a19 n20 c21, .bool true, .pointer (some ⟨wb, 1, none⟩)] .nil (by kernel_rfl) (fun b31 => ?_)
        refine OPS.cons (opStep.store1 hp25 rfl [.bool true] [.slice h9.a h9.n h9.c, .bool true] (by kernel_rfl) (fun w32 hp33 => ?_))
        refine OPS.nil ?_
        refine thn_n ?_
        exact ⟨true, trivial, Bp.of Bp.t (by first | (simp only [h29, iff_false, false_iff, iff_true, true_iff, Classical.not_not, and_true, true_and, and_false, false_and, or_true, true_or, or_false, false_or, not_true_eq_false, not_false_eq_true, and_self, or_self, iff_self]; done) | (simp [h29]; done) | grind | (simp_all; done)), by kernel_rfl, hp33⟩
      · refine OPS.batch 0 {} [] [4, 5, 15, 20] [.slice a19 n20 c21, .bool ok23, .pointer (some ⟨wb, 0, none⟩), .bool (bad || ws.isEmpty)] .nil (by kernel_rfl) (fun b34 => ?_)
        refine OPS.re [.slice a19 n20 c21, .bool ok23, .pointer (some ⟨wb, 0, none⟩), .bool false] (by rw [show (bad || ws.isEmpty) = false from Bp.var.ff h29]) ?_
        refine OPS.batch 5 { wraps := [23] } [] [4, 23, 25] [.slice a19 n20 c21, .bool (!ok23), .pointer (some ⟨wb, 1, none⟩)] .nil (by kernel_rfl) (fun b35 => ?_)
        refine OPS.cons (opStep.store1 hp25 rfl [.bool (!ok23)] [.slice h9.a h9.n h9.c, .bool (!ok23)] (by kernel_rfl) (fun w36 hp37 => ?_))
        refine OPS.nil ?_
        refine thn_n ?_
        exact ⟨!ok23, trivial, Bp.of (Bp.not Bp.var) (by first | (simp only [h29, iff_false, false_iff, iff_true, true_iff, Classical.not_not, and_true, true_and, and_false, false_and, or_true, true_or, or_false, false_or, not_true_eq_false, not_false_eq_true, and_self, or_self, iff_self]; done) | (simp [h29]; done) | grind | (simp_all; done)), by kernel_rfl, hp37⟩
    rintro e40 w41 ⟨x38, hd43, hb39, hE44, hp42⟩
    obtain ⟨b45, rfl⟩ := toMk hE44
    clear hE44
    clear hd43
    refine WP.seq ?_
    refine WP.pure {} [.string (strOf xs22)] [2] [.string (strOf xs22)] (.cons (show Bs Tryd.prog w41 (.slice a19 n20 c21) (.string (strOf xs22)) from Bs.of (SlR.own hp42.get0) (own_flat (sz := 1) (fun _ => rfl) (by decide) hp42.get0)) .nil) (by kernel_rfl) (fun b46 => ?_)
    refine thn_n ?_
    refine WP.ret ?_
    refine bodyQ.of _ rfl [.string (strOf xs22)] ⟨rfl, trivial⟩ ?_
    exact ⟨h9, _, _, rfl, byt_of (.inr ⟨h12, xs22, ok23, hu24, rfl, (show _ ↔ _ from hb39).trans (by first | (simp; done) | grind)⟩), (hp42.sub (.cons _ (.cons_cons _ (.cons_cons _ (.refl _)))))⟩

end Go.Proofs.YtbpedjefoajegaaDoor.K
