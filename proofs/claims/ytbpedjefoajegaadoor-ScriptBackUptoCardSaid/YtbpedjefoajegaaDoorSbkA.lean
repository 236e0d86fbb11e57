/- The walks of SbkA: what each function computes. -/
import Derived.Test.YtbpedjefoajegaaDoorProg
import Derived.Test.YtbpedjefoajegaaDoorCoreO
import Derived.Test.YtbpedjefoajegaaDoorScrN
namespace Go.Proofs.YtbpedjefoajegaaDoor.K
open Go Go.Proofs Go.RowKit
set_option linter.unusedVariables false
set_option linter.unusedSimpArgs false
set_option maxRecDepth 20000
set_option maxHeartbeats 4000000

theorem sb_same0 (K A B : Int) (Ky v : ByteArray) (l : List Int) (V1 V2 L1 L2 : SlH) (w : World) (hv1 : VB w V1 ∧ valAt w V1 = v) (hv2 : VB w V2 ∧ valAt w V2 = v) (hn1 : L1.n = l.length) (hn2 : L2.n = l.length) (hL1 : SlR w L1.a L1.n (l.flatMap i64c)) (hL2 : SlR w L2.a L2.n (l.flatMap i64c)) (hb : l.length ≤ 4611686018427387903) :
    Calls Tryd.prog 26 #[GStep.val (⟨K, A, B, Ky, V1, L1⟩ : GStep), GStep.val (⟨K, A, B, Ky, V2, L2⟩ : GStep)] w (fun x w' => x = .returned (.bool true) ∧ Fram Non w w') := by
  refine calls_of Tryd.func26 rfl 68 rfl (by simp) ?_
  have hp0 := Hp.init w
  have he0 : List.map (env0 [GStep.val (⟨K, A, B, Ky, V1, L1⟩ : GStep), GStep.val (⟨K, A, B, Ky, V2, L2⟩ : GStep)]) [0, 1] = [GStep.val (⟨K, A, B, Ky, V1, L1⟩ : GStep), GStep.val (⟨K, A, B, Ky, V2, L2⟩ : GStep)] := by kernel_rfl
  obtain ⟨b0, he0⟩ := toMk he0
  rw [he0]
  clear he0
  refine WP.seq ?_
  refine WP.region _ rfl (by kernel_rfl) ?_
  refine OPS.cons (opStep.box hp0 [.int .i64 K, .int .i64 A, .int .i64 B, .string Ky, .slice V1.a V1.n V1.c, .slice L1.a L1.n L1.c] (by kernel_rfl) (fun g3 w1 hp2 => ?_))
  refine OPS.cons (opStep.box hp2 [.int .i64 K, .int .i64 A, .int .i64 B, .string Ky, .slice V2.a V2.n V2.c, .slice L2.a L2.n L2.c] (by kernel_rfl) (fun g6 w4 hp5 => ?_))
  refine OPS.batch 1 {} [] [2, 3] [.pointer (some ⟨g3, 0, none⟩), .pointer (some ⟨g6, 0, none⟩)] .nil (by kernel_rfl) (fun b7 => ?_)
  refine OPS.nil ?_
  refine thn_n ?_
  refine WP.seq ?_
  refine WP.seq ?_
  refine WP.pure { wraps := [17, 24, 31, 40, 49], subs := [10, 16, 23, 30, 39, 48] } [.int .i64 K, .int .i64 K, .bool false, .int .i64 A, .int .i64 A, .bool false, .int .i64 B, .int .i64 B, .bool false, .string Ky, .string Ky, .bool false, .slice V1.a V1.n V1.c, .string v, .slice V2.a V2.n V2.c, .string v, .bool false, .slice L1.a L1.n L1.c, .slice L2.a L2.n L2.c, .bool false] [2, 3, 49] [.pointer (some ⟨g3, 0, none⟩), .pointer (some ⟨g6, 0, none⟩), .bool false] (.cons (Ld.row1 (P := Tryd.prog) (t := 3) (o := 0) (v := .int .i64 K) hp5.get1 (by kernel_rfl)) (.cons (Ld.row1 (P := Tryd.prog) (t := 3) (o := 0) (v := .int .i64 K) hp5.get0 (by kernel_rfl)) (.cons (show (.bool (decide (¬ (K = K))) : Go.Value) = .bool false from congrArg Value.bool (decide_eq_false (fun q_ => q_ (by first | rfl | omega)))) (.cons (Ld.row1 (P := Tryd.prog) (t := 3) (o := 1) (v := .int .i64 A) hp5.get1 (by kernel_rfl)) (.cons (Ld.row1 (P := Tryd.prog) (t := 3) (o := 1) (v := .int .i64 A) hp5.get0 (by kernel_rfl)) (.cons (show (.bool (decide (¬ (A = A))) : Go.Value) = .bool false from congrArg Value.bool (decide_eq_false (fun q_ => q_ (by first | rfl | omega)))) (.cons (Ld.row1 (P := Tryd.prog) (t := 3) (o := 2) (v := .int .i64 B) hp5.get1 (by kernel_rfl)) (.cons (Ld.row1 (P := Tryd.prog) (t := 3) (o := 2) (v := .int .i64 B) hp5.get0 (by kernel_rfl)) (.cons (show (.bool (decide (¬ (B = B))) : Go.Value) = .bool false from congrArg Value.bool (decide_eq_false (fun q_ => q_ (by first | rfl | omega)))) (.cons (Ld.row1 (P := Tryd.prog) (t := 9) (o := 3) (v := .string Ky) hp5.get1 (by kernel_rfl)) (.cons (Ld.row1 (P := Tryd.prog) (t := 9) (o := 3) (v := .string Ky) hp5.get0 (by kernel_rfl)) (.cons (show (.bool (decide (¬ (Ky = Ky))) : Go.Value) = .bool false from congrArg Value.bool (decide_eq_false (fun q_ => q_ (by first | rfl | omega)))) (.cons (Ld.row1 (P := Tryd.prog) (t := 28) (o := 4) (v := .slice V1.a V1.n V1.c) hp5.get1 (by kernel_rfl)) (.cons (show Bs Tryd.prog w4 (.slice V1.a V1.n V1.c) (.string v) from (hv1.2 ▸ VB.bs (P := Tryd.prog) hv1.1 hp5)) (.cons (Ld.row1 (P := Tryd.prog) (t := 28) (o := 4) (v := .slice V2.a V2.n V2.c) hp5.get0 (by kernel_rfl)) (.cons (show Bs Tryd.prog w4 (.slice V2.a V2.n V2.c) (.string v) from (hv2.2 ▸ VB.bs (P := Tryd.prog) hv2.1 hp5)) (.cons (show (.bool (decide (¬ (v = v))) : Go.Value) = .bool false from congrArg Value.bool (decide_eq_false (fun q_ => q_ (by first | rfl | omega)))) (.cons (Ld.row1 (P := Tryd.prog) (t := 29) (o := 5) (v := .slice L1.a L1.n L1.c) hp5.get1 (by kernel_rfl)) (.cons (Ld.row1 (P := Tryd.prog) (t := 29) (o := 5) (v := .slice L2.a L2.n L2.c) hp5.get0 (by kernel_rfl)) (.cons (show (.bool (decide (¬ (((L1.n : Nat) : Int) = ((L2.n : Nat) : Int)))) : Go.Value) = .bool false from congrArg Value.bool (decide_eq_false (fun q_ => q_ (by first | rfl | omega)))) .nil)))))))))))))))))))) (by kernel_rfl) (fun b8 => ?_)
  refine thn_n ?_
  refine WP.condF rfl ?_
  refine WP.skip ?_
  refine thn_n ?_
  refine WP.seq ?_
  refine WP.seq ?_
  refine WP.pure {} [] [2, 3, 5] [.pointer (some ⟨g3, 0, none⟩), .pointer (some ⟨g6, 0, none⟩), .int .i64 0] .nil (by kernel_rfl) (fun b9 => ?_)
  refine thn_n ?_
  refine WP.block ?_
  refine WP.loop (fun mz_ e10 w11 => ∃ (k : Nat), mz_ = l.length - k ∧ (k ≤ l.length) ∧ List.map e10 [2, 3, 5] = [.pointer (some ⟨g3, 0, none⟩), .pointer (some ⟨g6, 0, none⟩), .int .i64 (k : Int)] ∧ Hp w Non [Res.row g6 [.int .i64 K, .int .i64 A, .int .i64 B, .string Ky, .slice V2.a V2.n V2.c, .slice L2.a L2.n L2.c] 31, Res.row g3 [.int .i64 K, .int .i64 A, .int .i64 B, .string Ky, .slice V1.a V1.n V1.c, .slice L1.a L1.n L1.c] 31] w11) (l.length - (0)) ⟨0, rfl, (by omega), by kernel_rfl, hp5⟩ ?_
  rintro _ e10 w11 ⟨k, rfl, hI13, hE14, hp12⟩
  obtain ⟨b15, rfl⟩ := toMk hE14
  clear hE14
  obtain pa := hI13
  refine WP.seq ?_
  refine WP.seq ?_
  refine WP.pure {} [.slice L1.a L1.n L1.c] [2, 3, 5, 54] [.pointer (some ⟨g3, 0, none⟩), .pointer (some ⟨g6, 0, none⟩), .int .i64 (k : Int), .bool (decide ((k : Int) < ((L1.n : Nat) : Int)))] (.cons (Ld.row1 (P := Tryd.prog) (t := 29) (o := 5) (v := .slice L1.a L1.n L1.c) hp12.get1 (by kernel_rfl)) .nil) (by kernel_rfl) (fun b16 => ?_)
  refine thn_n ?_
  refine WP.test (p := (k : Int) < ((L1.n : Nat) : Int)) rfl Bp.dec (fun h17 => ?_) (fun h17 => ?_)
  · refine WP.skip ?_
    refine thn_n ?_
    refine WP.seq ?_
    refine WP.block ?_
    refine WP.seq ?_
    have hp20 := hp12.drew
    refine WP.quiet (fun w18 => Hp w Non [Res.row g6 [.int .i64 K, .int .i64 A, .int .i64 B, .string Ky, .slice V2.a V2.n V2.c, .slice L2.a L2.n L2.c] 31, Res.row g3 [.int .i64 K, .int .i64 A, .int .i64 B, .string Ky, .slice V1.a V1.n V1.c, .slice L1.a L1.n L1.c] 31] w18) (by kernel_rfl) hp20 ?_
    have hnehp20 : ∃ wz_, (fun w18 => Hp w Non [Res.row g6 [.int .i64 K, .int .i64 A, .int .i64 B, .string Ky, .slice V2.a V2.n V2.c, .slice L2.a L2.n L2.c] 31, Res.row g3 [.int .i64 K, .int .i64 A, .int .i64 B, .string Ky, .slice V1.a V1.n V1.c, .slice L1.a L1.n L1.c] 31] w18) wz_ := ⟨_, hp20⟩
    have hy24 : (l)[k]? = some l[k]! := get_bang (by first | (omega) | (simp only [List.length_append, List.length_cons, List.length_nil]; omega) | (simp only [List.length_take, List.length_append, List.length_cons, List.length_nil]; omega))
    refine QOPS.batch 11 { subs := [67] } [.slice L1.a L1.n L1.c, .int .i64 (l[k]!), .slice L2.a L2.n L2.c, .int .i64 (l[k]!), .bool false] [2, 3, 5, 67] [.pointer (some ⟨g3, 0, none⟩), .pointer (some ⟨g6, 0, none⟩), .int .i64 (k : Int), .bool false] hnehp20 (fun w21 hp22 => QB.mk (.cons (Ld.row1 (P := Tryd.prog) (t := 29) (o := 5) (v := .slice L1.a L1.n L1.c) hp22.get1 (by kernel_rfl)) (.cons (show InB ((k : Int)) (L1.n) from ⟨by omega, by omega⟩) (.cons ((hL1.at hp22).some (by omega)) (.cons (Ld.add0 (Ld.el1 (P := Tryd.prog) (t := 3) (hL1.at hp22).rd 1 (fun _ => rfl) hy24 (o := 0) (v := .int .i64 (l[k]!)) (by kernel_rfl))) (.cons (Ld.row1 (P := Tryd.prog) (t := 29) (o := 5) (v := .slice L2.a L2.n L2.c) hp22.get0 (by kernel_rfl)) (.cons (show InB ((k : Int)) (L2.n) from ⟨by omega, by omega⟩) (.cons ((hL2.at hp22).some (by omega)) (.cons (Ld.add0 (Ld.el1 (P := Tryd.prog) (t := 3) (hL2.at hp22).rd 1 (fun _ => rfl) hy24 (o := 0) (v := .int .i64 (l[k]!)) (by kernel_rfl))) (.cons (show (.bool (decide (¬ ((l[k]!) = (l[k]!)))) : Go.Value) = .bool false from congrArg Value.bool (decide_eq_false (fun q_ => q_ (by first | rfl | omega)))) .nil))))))))) (by kernel_rfl)) (fun b25 => ?_)
    refine QOPS.nil (fun w26 hp27 => ?_)
    refine thn_n ?_
    refine WP.condF rfl ?_
    refine WP.skip ?_
    refine blk_n ?_
    refine thn_n ?_
    refine WP.pure {} [] [2, 3, 5] [.pointer (some ⟨g3, 0, none⟩), .pointer (some ⟨g6, 0, none⟩), .int .i64 ((k : Int) + 1)] (.cons (show Rng .i64 ((k : Int) + 1) from Rng.i64 (by omega)) .nil) (by kernel_rfl) (fun b28 => ?_)
    refine thn_n ?_
    exact ⟨l.length - (k + 1), (by omega), k + 1, rfl, (by omega), by kernel_rfl, hp27⟩
  · refine WP.exit ?_
    refine thn_x ?_
    refine thn_x ?_
    refine blk_hit ?_
    refine thn_n ?_
    refine WP.seq ?_
    refine WP.pure {} [] [4] [.bool true] .nil (by kernel_rfl) (fun b29 => ?_)
    refine thn_n ?_
    refine WP.ret ?_
    refine bodyQ.of _ rfl [.bool true] ⟨rfl, trivial⟩ ?_
    exact ⟨rfl, hp12.fr⟩

theorem sb_same (s1 s2 : GStep) (x : StepP) (w : World) (h1 : StR w Tr s1 x) (h2 : StR w Tr s2 x) (hb : x.L.length ≤ 4611686018427387903) : Calls Tryd.prog 26 #[GStep.val s1, GStep.val s2] w (fun x w' => x = .returned (.bool true) ∧ Fram Non w w') := by
  have v1 := h1.vv
  have v2 := h2.vv
  obtain ⟨K, A, B, Ky, V1, L1⟩ := s1
  obtain ⟨K2, A2, B2, Ky2, V2, L2⟩ := s2
  obtain ⟨K', A', B', Ky', v, l⟩ := x
  obtain ⟨a1, a2, a3, a4, _, _, _, _, a9, a10⟩ := h1
  obtain ⟨b1, b2, b3, b4, _, _, _, _, b9, b10⟩ := h2
  simp only at a1 a2 a3 a4 b1 b2 b3 b4 v1 v2
  subst a1 a2 a3 a4
  cases b1
  cases b2
  cases b3
  cases b4
  exact sb_same0 _ _ _ _ v l V1 V2 L1 L2 w v1 v2 a9 b9 a10 b10 hb
theorem sb_sames (cl1 cl2 : List GStep) (xs : List StepP) (a1 a2 : Option Addr) (n1 n2 c1 c2 : Nat) (w : World) (hn : n1 = cl1.length) (hn2 : n2 = cl2.length) (hb : cl1.length ≤ 8796093022207) (h1 : SlR w a1 n1 (cl1.flatMap GStep.cells)) (h2 : SlR w a2 n2 (cl2.flatMap GStep.cells)) (hs1 : StL w Tr cl1 xs) (hs2 : StL w Tr cl2 xs) (hbz : ∀ i, i < xs.length → xs[i]!.L.length ≤ 4611686018427387903) :
    Calls Tryd.prog 10 #[.slice a1 n1 c1, .slice a2 n2 c2] w (fun x w' => x = .returned (.bool true) ∧ Fram Non w w') := by
  have hl1 := hs1.1
  have hl2 := hs2.1
  refine calls_of Tryd.func10 rfl 27 rfl (by simp) ?_
  have hp0 := Hp.init w
  have he0 : List.map (env0 [.slice a1 n1 c1, .slice a2 n2 c2]) [0, 1] = [.slice a1 n1 c1, .slice a2 n2 c2] := by kernel_rfl
  obtain ⟨b0, he0⟩ := toMk he0
  rw [he0]
  clear he0
  refine WP.seq ?_
  refine WP.pure {} [] [0, 1] [.slice a1 n1 c1, .slice a2 n2 c2] .nil (by kernel_rfl) (fun b1 => ?_)
  refine thn_n ?_
  refine WP.seq ?_
  refine WP.seq ?_
  refine WP.pure { subs := [10] } [.bool false] [0, 1, 10] [.slice a1 n1 c1, .slice a2 n2 c2, .bool false] (.cons (show (.bool (decide (¬ (((n1 : Nat) : Int) = ((n2 : Nat) : Int)))) : Go.Value) = .bool false from congrArg Value.bool (decide_eq_false (fun q_ => q_ (by first | rfl | omega)))) .nil) (by kernel_rfl) (fun b2 => ?_)
  refine thn_n ?_
  refine WP.condF rfl ?_
  refine WP.skip ?_
  refine thn_n ?_
  refine WP.seq ?_
  refine WP.seq ?_
  refine WP.pure {} [] [0, 1, 5] [.slice a1 n1 c1, .slice a2 n2 c2, .int .i64 0] .nil (by kernel_rfl) (fun b3 => ?_)
  refine thn_n ?_
  refine WP.block ?_
  refine WP.loop (fun mz_ e4 w5 => ∃ (k : Nat), mz_ = n1 - k ∧ (k ≤ n1) ∧ List.map e4 [0, 1, 5] = [.slice a1 n1 c1, .slice a2 n2 c2, .int .i64 (k : Int)] ∧ Hp w Non [] w5) (n1 - (0)) ⟨0, rfl, (by omega), by kernel_rfl, hp0⟩ ?_
  rintro _ e4 w5 ⟨k, rfl, hI7, hE8, hp6⟩
  obtain ⟨b9, rfl⟩ := toMk hE8
  clear hE8
  obtain pa := hI7
  refine WP.seq ?_
  refine WP.seq ?_
  refine WP.pure {} [] [0, 1, 5, 14] [.slice a1 n1 c1, .slice a2 n2 c2, .int .i64 (k : Int), .bool (decide ((k : Int) < ((n1 : Nat) : Int)))] .nil (by kernel_rfl) (fun b10 => ?_)
  refine thn_n ?_
  refine WP.test (p := (k : Int) < ((n1 : Nat) : Int)) rfl Bp.dec (fun h11 => ?_) (fun h11 => ?_)
  · refine WP.skip ?_
    refine thn_n ?_
    refine WP.seq ?_
    refine WP.block ?_
    refine WP.seq ?_
    have hp14 := hp6.drew
    refine WP.quiet (fun w12 => Hp w Non [] w12) (by kernel_rfl) hp14 ?_
    have hnehp14 : ∃ wz_, (fun w12 => Hp w Non [] w12) wz_ := ⟨_, hp14⟩
    have hy18 : (cl1)[k]? = some cl1[k]! := get_bang (by first | (omega) | (simp only [List.length_append, List.length_cons, List.length_nil]; omega) | (simp only [List.length_take, List.length_append, List.length_cons, List.length_nil]; omega))
    have hy20 : (cl2)[k]? = some cl2[k]! := get_bang (by first | (omega) | (simp only [List.length_append, List.length_cons, List.length_nil]; omega) | (simp only [List.length_take, List.length_append, List.length_cons, List.length_nil]; omega))
    refine QOPS.batch 8 {} [GStep.val (cl1[k]!), GStep.val (cl2[k]!)] [0, 1, 5, 20, 24] [.slice a1 n1 c1, .slice a2 n2 c2, .int .i64 (k : Int), GStep.val (cl1[k]!), GStep.val (cl2[k]!)] hnehp14 (fun w15 hp16 => QB.mk (.cons (show InB ((k : Int)) (n1) from ⟨by omega, by omega⟩) (.cons ((h1.at hp16).some (by omega)) (.cons (Ld.add0 (Ld.elN (P := Tryd.prog) (t := 31) (h1.at hp16).rd 6 (fun _ => rfl) hy18 (o := 0) (cs := [.int .i64 (cl1[k]!.Kind), .int .i64 (cl1[k]!.A), .int .i64 (cl1[k]!.B), .string (cl1[k]!.Key), .slice (cl1[k]!.Value.a) (cl1[k]!.Value.n) (cl1[k]!.Value.c), .slice (cl1[k]!.L.a) (cl1[k]!.L.n) (cl1[k]!.L.c)]) (by kernel_rfl))) (.cons (show InB ((k : Int)) (n2) from ⟨by omega, by omega⟩) (.cons ((h2.at hp16).some (by omega)) (.cons (Ld.add0 (Ld.elN (P := Tryd.prog) (t := 31) (h2.at hp16).rd 6 (fun _ => rfl) hy20 (o := 0) (cs := [.int .i64 (cl2[k]!.Kind), .int .i64 (cl2[k]!.A), .int .i64 (cl2[k]!.B), .string (cl2[k]!.Key), .slice (cl2[k]!.Value.a) (cl2[k]!.Value.n) (cl2[k]!.Value.c), .slice (cl2[k]!.L.a) (cl2[k]!.L.n) (cl2[k]!.L.c)]) (by kernel_rfl))) .nil)))))) (by kernel_rfl)) (fun b21 => ?_)
    refine QOPS.call (some 25) [GStep.val (cl1[k]!), GStep.val (cl2[k]!)] (by kernel_rfl) (fun w22 hp23 => (sb_same cl1[k]! cl2[k]! xs[k]! _ ((hs1.2 k (by omega)).fram hp23.fr) ((hs2.2 k (by omega)).fram hp23.fr) (hbz k (by omega))).mono fun _ _ h => ⟨h.1, hp23.step h.2⟩) ?_
    refine QOPS.batch 1 {} [] [0, 1, 5, 26] [.slice a1 n1 c1, .slice a2 n2 c2, .int .i64 (k : Int), .bool false] hnehp14 (fun w24 hp25 => QB.mk .nil (by kernel_rfl)) (fun b26 => ?_)
    refine QOPS.nil (fun w27 hp28 => ?_)
    refine thn_n ?_
    refine WP.condF rfl ?_
    refine WP.skip ?_
    refine blk_n ?_
    refine thn_n ?_
    refine WP.pure {} [] [0, 1, 5] [.slice a1 n1 c1, .slice a2 n2 c2, .int .i64 ((k : Int) + 1)] (.cons (show Rng .i64 ((k : Int) + 1) from Rng.i64 (by omega)) .nil) (by kernel_rfl) (fun b29 => ?_)
    refine thn_n ?_
    exact ⟨n1 - (k + 1), (by omega), k + 1, rfl, (by omega), by kernel_rfl, hp28⟩
  · refine WP.exit ?_
    refine thn_x ?_
    refine thn_x ?_
    refine blk_hit ?_
    refine thn_n ?_
    refine WP.seq ?_
    refine WP.pure {} [] [4] [.bool true] .nil (by kernel_rfl) (fun b30 => ?_)
    refine thn_n ?_
    refine WP.ret ?_
    refine bodyQ.of _ rfl [.bool true] ⟨rfl, trivial⟩ ?_
    exact ⟨rfl, hp6.fr⟩

end Go.Proofs.YtbpedjefoajegaaDoor.K
