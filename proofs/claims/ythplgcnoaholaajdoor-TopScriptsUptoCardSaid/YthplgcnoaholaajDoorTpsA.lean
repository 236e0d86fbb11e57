/- The walks of TpsA: what each function computes. -/
import Derived.Test.YthplgcnoaholaajDoorProg
import Derived.Test.YthplgcnoaholaajDoorCoreO
import Derived.Test.YthplgcnoaholaajDoorCoreI
import Derived.Test.YthplgcnoaholaajDoorScrN
namespace Go.Proofs.YthplgcnoaholaajDoor.K
open Go Go.Proofs Go.RowKit
set_option linter.unusedVariables false
set_option linter.unusedSimpArgs false
set_option maxRecDepth 20000
set_option maxHeartbeats 4000000

theorem tp_own (b : SlH) (v : ByteArray) (w : World) (hn : b.n = v.size) (hbs : v.size ≤ 140737488355327) (hb : SlR w b.a b.n ((bytesI v).flatMap u8c)) :
    Calls Tryd.prog 15 #[.slice b.a b.n b.c] w (fun r_ w' => ∃ a c, r_ = .returned (.slice a b.n c) ∧ Hp w Non [Res.own 5 1 (.slice a b.n c) b.n ((bytesI v).flatMap u8c)] w') := by
  refine calls_of Tryd.func15 rfl 5 rfl (by simp) ?_
  have hp0 := Hp.init w
  have he0 : List.map (env0 [.slice b.a b.n b.c]) [0] = [.slice b.a b.n b.c] := by kernel_rfl
  obtain ⟨b0, he0⟩ := toMk he0
  rw [he0]
  clear he0
  refine WP.seq ?_
  refine WP.pure {} [] [0] [.slice b.a b.n b.c] .nil (by kernel_rfl) (fun b1 => ?_)
  refine thn_n ?_
  refine WP.seq ?_
  refine WP.region _ rfl (by kernel_rfl) ?_
  refine OPS.batch 1 {} [] [3] [.slice b.a b.n b.c] .nil (by kernel_rfl) (fun b2 => ?_)
  have hp6 := (show Hp w Non [Res.own 5 1 (.slice none 0 0) 0 (List.flatMap u8c ([] : List Int))] w from hp0.nilOwn 5 1)
  refine OPS.cons (opStep.appendS (A := []) hp6 1 (by kernel_rfl) rfl rfl (hb.at hp6) (flat_n (fun _ => rfl) (by rw [bytesI_len, hn])) (one_flat (fun _ => rfl)) (by decide) (by omega) (by omega) (fun a7 c8 w9 hp10 => ?_))
  rw [show List.flatMap u8c ([] : List Int) ++ List.flatMap u8c (bytesI v) = List.flatMap u8c ((bytesI v)) from rfl] at hp10
  simp only [List.cons_append, List.nil_append] at hp10
  refine OPS.batch 1 {} [] [2] [.slice a7 (0 + b.n) c8] .nil (by kernel_rfl) (fun b11 => ?_)
  refine OPS.nil ?_
  refine thn_n ?_
  refine WP.ret ?_
  refine bodyQ.of _ rfl [.slice a7 (0 + b.n) c8] ⟨rfl, trivial⟩ ?_
  exact ⟨_, _, by simp only [pack]; rw [show 0 + b.n = b.n from Nat.zero_add _], by have h_ := hp10; rw [show 0 + b.n = b.n from Nat.zero_add _] at h_; exact h_⟩

theorem tp_ownStep (s : GStep) (x : StepP) (w : World) (hx : StR w Tr s x) (hs : x.Value.size ≤ 1099511627776 ∧ x.L.length ≤ 1099511627776) :
    Calls Tryd.prog 5 #[GStep.val s] w (fun r_ w' => ∃ s' F, r_ = .returned (GStep.val s') ∧ Hp w Non [Res.sv F [s'] [x]] w') := by
  have hs1 := hs.1
  have hs2 := hs.2
  have hvn := hx.vn
  have hln := hx.ln
  refine calls_of Tryd.func5 rfl 12 rfl (by simp) ?_
  have hp0 := Hp.init w
  have he0 : List.map (env0 [GStep.val s]) [0] = [GStep.val s] := by kernel_rfl
  obtain ⟨b0, he0⟩ := toMk he0
  rw [he0]
  clear he0
  refine WP.seq ?_
  refine WP.region _ rfl (by kernel_rfl) ?_
  refine OPS.cons (opStep.box hp0 [.int .i64 s.Kind, .int .i64 s.A, .int .i64 s.B, .string s.Key, .slice s.Value.a s.Value.n s.Value.c, .slice s.L.a s.L.n s.L.c] (by kernel_rfl) (fun g3 w1 hp2 => ?_))
  refine OPS.cons (opStep.alloc hp2 [.int .i64 0, .int .i64 0, .int .i64 0, .string ByteArray.empty, .slice none 0 0, .slice none 0 0] (by kernel_rfl) (fun g6 w4 hp5 => ?_))
  refine OPS.nil ?_
  refine thn_n ?_
  refine WP.seq ?_
  refine WP.region _ rfl (by kernel_rfl) ?_
  refine OPS.batch 2 {} [.slice s.Value.a s.Value.n s.Value.c] [1, 2, 4] [.pointer (some ⟨g3, 0, none⟩), .pointer (some ⟨g6, 0, none⟩), .slice s.Value.a s.Value.n s.Value.c] (.cons (Ld.row1 (P := Tryd.prog) (t := 26) (o := 4) (v := .slice s.Value.a s.Value.n s.Value.c) hp5.get1 (by kernel_rfl)) .nil) (by kernel_rfl) (fun b7 => ?_)
  refine OPS.cons (opStep.call (some 5) [.slice s.Value.a s.Value.n s.Value.c] (by kernel_rfl) (tp_own s.Value x.Value _ hx.vn (by omega) (SlR.fram hx.vr hp5.fr)) ?_)
  rintro _ w10 ⟨a12, c13, rfl, hp11⟩
  refine ⟨_, rfl, ?_⟩
  have hp14 := hp5.madeQ hp11
  simp only [List.cons_append, List.nil_append] at hp14
  refine OPS.batch 1 {} [] [1, 2, 5, 6] [.pointer (some ⟨g3, 0, none⟩), .pointer (some ⟨g6, 0, none⟩), .slice a12 s.Value.n c13, .pointer (some ⟨g3, 4, none⟩)] .nil (by kernel_rfl) (fun b15 => ?_)
  refine OPS.cons (opStep.store2 hp14 rfl [.slice a12 s.Value.n c13] [.int .i64 s.Kind, .int .i64 s.A, .int .i64 s.B, .string s.Key, .slice a12 s.Value.n c13, .slice s.L.a s.L.n s.L.c] (by kernel_rfl) (fun w16 hp17 => ?_))
  refine OPS.nil ?_
  refine thn_n ?_
  refine WP.seq ?_
  refine WP.region _ rfl (by kernel_rfl) ?_
  refine OPS.batch 2 {} [.slice s.L.a s.L.n s.L.c] [1, 2, 8] [.pointer (some ⟨g3, 0, none⟩), .pointer (some ⟨g6, 0, none⟩), .slice s.L.a s.L.n s.L.c] (.cons (Ld.row1 (P := Tryd.prog) (t := 27) (o := 5) (v := .slice s.L.a s.L.n s.L.c) hp17.get2 (by kernel_rfl)) .nil) (by kernel_rfl) (fun b18 => ?_)
  have hp22 := (show Hp w Non [Res.own 3 1 (.slice none 0 0) 0 (List.flatMap i64c ([] : List Int)), Res.own 5 1 (.slice a12 s.Value.n c13) s.Value.n (List.flatMap u8c (bytesI x.Value)), Res.row g6 [.int .i64 0, .int .i64 0, .int .i64 0, .string ByteArray.empty, .slice none 0 0, .slice none 0 0] 29, Res.row g3 [.int .i64 s.Kind, .int .i64 s.A, .int .i64 s.B, .string s.Key, .slice a12 s.Value.n c13, .slice s.L.a s.L.n s.L.c] 29] w16 from hp17.nilOwn 3 1)
  refine OPS.cons (opStep.appendS (A := []) hp22 8 (by kernel_rfl) rfl rfl (hx.lr.at hp22) (flat_n (fun _ => rfl) (by rw [hx.ln])) (one_flat (fun _ => rfl)) (by decide) (by omega) (by omega) (fun a23 c24 w25 hp26 => ?_))
  rw [show List.flatMap i64c ([] : List Int) ++ List.flatMap i64c x.L = List.flatMap i64c (x.L) from rfl] at hp26
  simp only [List.cons_append, List.nil_append] at hp26
  refine OPS.batch 1 {} [] [1, 2, 9, 10] [.pointer (some ⟨g3, 0, none⟩), .pointer (some ⟨g6, 0, none⟩), .slice a23 (0 + s.L.n) c24, .pointer (some ⟨g3, 5, none⟩)] .nil (by kernel_rfl) (fun b27 => ?_)
  refine OPS.cons (opStep.store3 hp26 rfl [.slice a23 (0 + s.L.n) c24] [.int .i64 s.Kind, .int .i64 s.A, .int .i64 s.B, .string s.Key, .slice a12 s.Value.n c13, .slice a23 (0 + s.L.n) c24] (by kernel_rfl) (fun w28 hp29 => ?_))
  refine OPS.nil ?_
  refine thn_n ?_
  refine WP.seq ?_
  refine WP.region _ rfl (by kernel_rfl) ?_
  refine OPS.batch 1 {} [.agg #[.int .i64 s.Kind, .int .i64 s.A, .int .i64 s.B, .string s.Key, .slice a12 s.Value.n c13, .slice a23 (0 + s.L.n) c24]] [2, 11] [.pointer (some ⟨g6, 0, none⟩), .agg #[.int .i64 s.Kind, .int .i64 s.A, .int .i64 s.B, .string s.Key, .slice a12 s.Value.n c13, .slice a23 (0 + s.L.n) c24]] (.cons (show Ld Tryd.prog w28 29 ⟨g3, 0, none⟩ (.agg #[.int .i64 s.Kind, .int .i64 s.A, .int .i64 s.B, .string s.Key, .slice a12 s.Value.n c13, .slice a23 (0 + s.L.n) c24]) from Ld.rowN (cs := [.int .i64 s.Kind, .int .i64 s.A, .int .i64 s.B, .string s.Key, .slice a12 s.Value.n c13, .slice a23 (0 + s.L.n) c24]) hp29.get3 (by kernel_rfl)) .nil) (by kernel_rfl) (fun b30 => ?_)
  refine OPS.cons (opStep.store2 hp29 rfl [.int .i64 s.Kind, .int .i64 s.A, .int .i64 s.B, .string s.Key, .slice a12 s.Value.n c13, .slice a23 (0 + s.L.n) c24] [.int .i64 s.Kind, .int .i64 s.A, .int .i64 s.B, .string s.Key, .slice a12 s.Value.n c13, .slice a23 (0 + s.L.n) c24] (by kernel_rfl) (fun w31 hp32 => ?_))
  refine OPS.nil ?_
  refine thn_n ?_
  refine WP.ret ?_
  refine bodyQ.of _ rfl [.agg #[.int .i64 s.Kind, .int .i64 s.A, .int .i64 s.B, .string s.Key, .slice a12 s.Value.n c13, .slice a23 (0 + s.L.n) c24]] ⟨⟨_, rfl, (show Ld Tryd.prog w31 29 ⟨g6, 0, none⟩ (.agg #[.int .i64 s.Kind, .int .i64 s.A, .int .i64 s.B, .string s.Key, .slice a12 s.Value.n c13, .slice a23 (0 + s.L.n) c24]) from Ld.rowN (cs := [.int .i64 s.Kind, .int .i64 s.A, .int .i64 s.B, .string s.Key, .slice a12 s.Value.n c13, .slice a23 (0 + s.L.n) c24]) hp32.get2 (by kernel_rfl))⟩, trivial⟩ ?_
  have h_ := (((hp32.pull0).pull1).sub (.cons_cons _ (.cons_cons _ (.cons _ (.cons _ (.slnil))))))
  rw [show 0 + s.L.n = s.L.n from Nat.zero_add _] at h_
  exact ⟨(⟨s.Kind, s.A, s.B, s.Key, ⟨a12, s.Value.n, c13⟩, ⟨a23, s.L.n, c24⟩⟩ : GStep), _, by simp only [pack]; rw [show 0 + s.L.n = s.L.n from Nat.zero_add _]; rfl, Hp.svMakeO (⟨s.Kind, s.A, s.B, s.Key, ⟨a12, s.Value.n, c13⟩, ⟨a23, s.L.n, c24⟩⟩ : GStep) x hx.kind hx.a hx.b hx.key h_⟩

theorem tp_bytes (l : List Int) (a1 a2 : Option Addr) (n1 n2 c1 c2 : Nat) (w : World) (hn : n1 = l.length) (hn2 : n2 = l.length) (h1 : SlR w a1 n1 (l.flatMap u8c)) (h2 : SlR w a2 n2 (l.flatMap u8c)) (hb : l.length ≤ 4611686018427387903) :
    Calls Tryd.prog 21 #[.slice a1 n1 c1, .slice a2 n2 c2] w (fun x w' => x = .returned (.bool true) ∧ Fram Non w w') := by
  refine calls_of Tryd.func21 rfl 26 rfl (by simp) ?_
  have hp0 := Hp.init w
  have he0 : List.map (env0 [.slice a1 n1 c1, .slice a2 n2 c2]) [0, 1] = [.slice a1 n1 c1, .slice a2 n2 c2] := by kernel_rfl
  obtain ⟨b0, he0⟩ := toMk he0
  rw [he0]
  clear he0
  refine WP.seq ?_
  refine WP.pure {} [] [0, 1] [.slice a1 n1 c1, .slice a2 n2 c2] .nil (by kernel_rfl) (fun b1 => ?_)
  refine thn_n ?_
  refine WP.seq ?_
  refine WP.seq ?_
  refine WP.pure {} [] [0, 1, 10] [.slice a1 n1 c1, .slice a2 n2 c2, .bool (decide (¬ (((n1 : Nat) : Int) = ((n2 : Nat) : Int))))] .nil (by kernel_rfl) (fun b2 => ?_)
  refine thn_n ?_
  refine WP.test (p := ¬ (((n1 : Nat) : Int) = ((n2 : Nat) : Int))) rfl Bp.dec (fun h3 => ?_) (fun h3 => ?_)
  · refine WP.seq ?_
    refine WP.pure {} [] [4] [.bool false] .nil (by kernel_rfl) (fun b4 => ?_)
    refine thn_n ?_
    refine WP.ret ?_
    refine thn_r ?_
    refine bodyQ.of _ rfl [.bool false] ⟨rfl, trivial⟩ ?_
    exfalso
    first | omega | (exact h3 rfl)
  · replace h3 := Classical.not_not.1 h3
    refine WP.skip ?_
    refine thn_n ?_
    refine WP.seq ?_
    refine WP.seq ?_
    refine WP.pure {} [] [0, 1, 12, 13] [.slice a1 n1 c1, .slice a2 n2 c2, .int .i64 ((n1 : Nat) : Int), .int .i64 0] .nil (by kernel_rfl) (fun b5 => ?_)
    refine thn_n ?_
    refine WP.block ?_
    refine WP.loop (fun mz_ e6 w7 => ∃ (k : Nat), mz_ = l.length - k ∧ (k ≤ l.length) ∧ List.map e6 [0, 1, 12, 13] = [.slice a1 n1 c1, .slice a2 n2 c2, .int .i64 ((n1 : Nat) : Int), .int .i64 (k : Int)] ∧ Hp w Non [] w7) (l.length - (0)) ⟨0, rfl, (by omega), by kernel_rfl, hp0⟩ ?_
    rintro _ e6 w7 ⟨k, rfl, hI9, hE10, hp8⟩
    obtain ⟨b11, rfl⟩ := toMk hE10
    clear hE10
    obtain pa := hI9
    refine WP.seq ?_
    refine WP.pure {} [] [0, 1, 12, 13, 14] [.slice a1 n1 c1, .slice a2 n2 c2, .int .i64 ((n1 : Nat) : Int), .int .i64 (k : Int), .bool (decide ((k : Int) < ((n1 : Nat) : Int)))] .nil (by kernel_rfl) (fun b12 => ?_)
    refine thn_n ?_
    refine WP.seq ?_
    refine WP.test (p := (k : Int) < ((n1 : Nat) : Int)) rfl Bp.dec (fun h13 => ?_) (fun h13 => ?_)
    · refine WP.skip ?_
      refine thn_n ?_
      refine WP.seq ?_
      refine WP.block ?_
      refine WP.seq ?_
      refine WP.pure {} [] [0, 1, 5, 12, 13] [.slice a1 n1 c1, .slice a2 n2 c2, .int .i64 (k : Int), .int .i64 ((n1 : Nat) : Int), .int .i64 (k : Int)] .nil (by kernel_rfl) (fun b14 => ?_)
      refine thn_n ?_
      refine WP.seq ?_
      have hp17 := hp8.drew
      refine WP.quiet (fun w15 => Hp w Non [] w15) (by kernel_rfl) hp17 ?_
      have hnehp17 : ∃ wz_, (fun w15 => Hp w Non [] w15) wz_ := ⟨_, hp17⟩
      have hy21 : (l)[k]? = some l[k]! := get_bang (by first | (omega) | (simp only [List.length_append, List.length_cons, List.length_nil]; omega) | (simp only [List.length_take, List.length_append, List.length_cons, List.length_nil]; omega))
      refine QOPS.batch 9 {} [.int .u8 (l[k]!), .int .u8 (l[k]!)] [0, 1, 12, 13, 24] [.slice a1 n1 c1, .slice a2 n2 c2, .int .i64 ((n1 : Nat) : Int), .int .i64 (k : Int), .bool (decide (¬ ((l[k]!) = (l[k]!))))] hnehp17 (fun w18 hp19 => QB.mk (.cons (show InB ((k : Int)) (n1) from ⟨by omega, by omega⟩) (.cons ((h1.at hp19).some (by omega)) (.cons (Ld.add0 (Ld.el1 (P := Tryd.prog) (t := 5) (h1.at hp19).rd 1 (fun _ => rfl) hy21 (o := 0) (v := .int .u8 (l[k]!)) (by kernel_rfl))) (.cons (show InB ((k : Int)) (n2) from ⟨by omega, by omega⟩) (.cons ((h2.at hp19).some (by omega)) (.cons (Ld.add0 (Ld.el1 (P := Tryd.prog) (t := 5) (h2.at hp19).rd 1 (fun _ => rfl) hy21 (o := 0) (v := .int .u8 (l[k]!)) (by kernel_rfl))) .nil)))))) (by kernel_rfl)) (fun b22 => ?_)
      refine QOPS.nil (fun w23 hp24 => ?_)
      refine thn_n ?_
      refine WP.test (p := ¬ ((l[k]!) = (l[k]!))) rfl Bp.dec (fun h25 => ?_) (fun h25 => ?_)
      · refine WP.seq ?_
        refine WP.pure {} [] [4] [.bool false] .nil (by kernel_rfl) (fun b26 => ?_)
        refine thn_n ?_
        refine WP.ret ?_
        refine blk_r ?_
        refine thn_r ?_
        refine thn_r ?_
        refine blk_r ?_
        refine thn_r ?_
        refine bodyQ.of _ rfl [.bool false] ⟨rfl, trivial⟩ ?_
        exfalso
        first | omega | (exact h25 rfl)
      · replace h25 := Classical.not_not.1 h25
        refine WP.skip ?_
        refine blk_n ?_
        refine thn_n ?_
        refine WP.pure {} [] [0, 1, 12, 13] [.slice a1 n1 c1, .slice a2 n2 c2, .int .i64 ((n1 : Nat) : Int), .int .i64 ((k : Int) + 1)] (.cons (show Rng .i64 ((k : Int) + 1) from Rng.i64 (by omega)) .nil) (by kernel_rfl) (fun b27 => ?_)
        refine thn_n ?_
        exact ⟨l.length - (k + 1), (by omega), k + 1, rfl, (by omega), by kernel_rfl, hp24⟩
    · refine WP.exit ?_
      refine thn_x ?_
      refine thn_x ?_
      refine blk_hit ?_
      refine thn_n ?_
      refine WP.seq ?_
      refine WP.pure {} [] [4] [.bool true] .nil (by kernel_rfl) (fun b28 => ?_)
      refine thn_n ?_
      refine WP.ret ?_
      refine bodyQ.of _ rfl [.bool true] ⟨rfl, trivial⟩ ?_
      exact ⟨rfl, hp8.fr⟩

theorem tp_ints (l : List Int) (a1 a2 : Option Addr) (n1 n2 c1 c2 : Nat) (w : World) (hn : n1 = l.length) (hn2 : n2 = l.length) (h1 : SlR w a1 n1 (l.flatMap i64c)) (h2 : SlR w a2 n2 (l.flatMap i64c)) (hb : l.length ≤ 4611686018427387903) :
    Calls Tryd.prog 22 #[.slice a1 n1 c1, .slice a2 n2 c2] w (fun x w' => x = .returned (.bool true) ∧ Fram Non w w') := by
  refine calls_of Tryd.func22 rfl 26 rfl (by simp) ?_
  have hp0 := Hp.init w
  have he0 : List.map (env0 [.slice a1 n1 c1, .slice a2 n2 c2]) [0, 1] = [.slice a1 n1 c1, .slice a2 n2 c2] := by kernel_rfl
  obtain ⟨b0, he0⟩ := toMk he0
  rw [he0]
  clear he0
  refine WP.seq ?_
  refine WP.pure {} [] [0, 1] [.slice a1 n1 c1, .slice a2 n2 c2] .nil (by kernel_rfl) (fun b1 => ?_)
  refine thn_n ?_
  refine WP.seq ?_
  refine WP.seq ?_
  refine WP.pure {} [] [0, 1, 10] [.slice a1 n1 c1, .slice a2 n2 c2, .bool (decide (¬ (((n1 : Nat) : Int) = ((n2 : Nat) : Int))))] .nil (by kernel_rfl) (fun b2 => ?_)
  refine thn_n ?_
  refine WP.test (p := ¬ (((n1 : Nat) : Int) = ((n2 : Nat) : Int))) rfl Bp.dec (fun h3 => ?_) (fun h3 => ?_)
  · refine WP.seq ?_
    refine WP.pure {} [] [4] [.bool false] .nil (by kernel_rfl) (fun b4 => ?_)
    refine thn_n ?_
    refine WP.ret ?_
    refine thn_r ?_
    refine bodyQ.of _ rfl [.bool false] ⟨rfl, trivial⟩ ?_
    exfalso
    first | omega | (exact h3 rfl)
  · replace h3 := Classical.not_not.1 h3
    refine WP.skip ?_
    refine thn_n ?_
    refine WP.seq ?_
    refine WP.seq ?_
    refine WP.pure {} [] [0, 1, 12, 13] [.slice a1 n1 c1, .slice a2 n2 c2, .int .i64 ((n1 : Nat) : Int), .int .i64 0] .nil (by kernel_rfl) (fun b5 => ?_)
    refine thn_n ?_
    refine WP.block ?_
    refine WP.loop (fun mz_ e6 w7 => ∃ (k : Nat), mz_ = l.length - k ∧ (k ≤ l.length) ∧ List.map e6 [0, 1, 12, 13] = [.slice a1 n1 c1, .slice a2 n2 c2, .int .i64 ((n1 : Nat) : Int), .int .i64 (k : Int)] ∧ Hp w Non [] w7) (l.length - (0)) ⟨0, rfl, (by omega), by kernel_rfl, hp0⟩ ?_
    rintro _ e6 w7 ⟨k, rfl, hI9, hE10, hp8⟩
    obtain ⟨b11, rfl⟩ := toMk hE10
    clear hE10
    obtain pa := hI9
    refine WP.seq ?_
    refine WP.pure {} [] [0, 1, 12, 13, 14] [.slice a1 n1 c1, .slice a2 n2 c2, .int .i64 ((n1 : Nat) : Int), .int .i64 (k : Int), .bool (decide ((k : Int) < ((n1 : Nat) : Int)))] .nil (by kernel_rfl) (fun b12 => ?_)
    refine thn_n ?_
    refine WP.seq ?_
    refine WP.test (p := (k : Int) < ((n1 : Nat) : Int)) rfl Bp.dec (fun h13 => ?_) (fun h13 => ?_)
    · refine WP.skip ?_
      refine thn_n ?_
      refine WP.seq ?_
      refine WP.block ?_
      refine WP.seq ?_
      refine WP.pure {} [] [0, 1, 5, 12, 13] [.slice a1 n1 c1, .slice a2 n2 c2, .int .i64 (k : Int), .int .i64 ((n1 : Nat) : Int), .int .i64 (k : Int)] .nil (by kernel_rfl) (fun b14 => ?_)
      refine thn_n ?_
      refine WP.seq ?_
      have hp17 := hp8.drew
      refine WP.quiet (fun w15 => Hp w Non [] w15) (by kernel_rfl) hp17 ?_
      have hnehp17 : ∃ wz_, (fun w15 => Hp w Non [] w15) wz_ := ⟨_, hp17⟩
      have hy21 : (l)[k]? = some l[k]! := get_bang (by first | (omega) | (simp only [List.length_append, List.length_cons, List.length_nil]; omega) | (simp only [List.length_take, List.length_append, List.length_cons, List.length_nil]; omega))
      refine QOPS.batch 9 {} [.int .i64 (l[k]!), .int .i64 (l[k]!)] [0, 1, 12, 13, 24] [.slice a1 n1 c1, .slice a2 n2 c2, .int .i64 ((n1 : Nat) : Int), .int .i64 (k : Int), .bool (decide (¬ ((l[k]!) = (l[k]!))))] hnehp17 (fun w18 hp19 => QB.mk (.cons (show InB ((k : Int)) (n1) from ⟨by omega, by omega⟩) (.cons ((h1.at hp19).some (by omega)) (.cons (Ld.add0 (Ld.el1 (P := Tryd.prog) (t := 3) (h1.at hp19).rd 1 (fun _ => rfl) hy21 (o := 0) (v := .int .i64 (l[k]!)) (by kernel_rfl))) (.cons (show InB ((k : Int)) (n2) from ⟨by omega, by omega⟩) (.cons ((h2.at hp19).some (by omega)) (.cons (Ld.add0 (Ld.el1 (P := Tryd.prog) (t := 3) (h2.at hp19).rd 1 (fun _ => rfl) hy21 (o := 0) (v := .int .i64 (l[k]!)) (by kernel_rfl))) .nil)))))) (by kernel_rfl)) (fun b22 => ?_)
      refine QOPS.nil (fun w23 hp24 => ?_)
      refine thn_n ?_
      refine WP.test (p := ¬ ((l[k]!) = (l[k]!))) rfl Bp.dec (fun h25 => ?_) (fun h25 => ?_)
      · refine WP.seq ?_
        refine WP.pure {} [] [4] [.bool false] .nil (by kernel_rfl) (fun b26 => ?_)
        refine thn_n ?_
        refine WP.ret ?_
        refine blk_r ?_
        refine thn_r ?_
        refine thn_r ?_
        refine blk_r ?_
        refine thn_r ?_
        refine bodyQ.of _ rfl [.bool false] ⟨rfl, trivial⟩ ?_
        exfalso
        first | omega | (exact h25 rfl)
      · replace h25 := Classical.not_not.1 h25
        refine WP.skip ?_
        refine blk_n ?_
        refine thn_n ?_
        refine WP.pure {} [] [0, 1, 12, 13] [.slice a1 n1 c1, .slice a2 n2 c2, .int .i64 ((n1 : Nat) : Int), .int .i64 ((k : Int) + 1)] (.cons (show Rng .i64 ((k : Int) + 1) from Rng.i64 (by omega)) .nil) (by kernel_rfl) (fun b27 => ?_)
        refine thn_n ?_
        exact ⟨l.length - (k + 1), (by omega), k + 1, rfl, (by omega), by kernel_rfl, hp24⟩
    · refine WP.exit ?_
      refine thn_x ?_
      refine thn_x ?_
      refine blk_hit ?_
      refine thn_n ?_
      refine WP.seq ?_
      refine WP.pure {} [] [4] [.bool true] .nil (by kernel_rfl) (fun b28 => ?_)
      refine thn_n ?_
      refine WP.ret ?_
      refine bodyQ.of _ rfl [.bool true] ⟨rfl, trivial⟩ ?_
      exact ⟨rfl, hp8.fr⟩

theorem tp_steps (cl1 cl2 : List GStep) (xs : List StepP) (a1 a2 : Option Addr) (n1 n2 c1 c2 : Nat) (w : World) (hn : n1 = cl1.length) (hn2 : n2 = cl2.length) (hb : cl1.length ≤ 8796093022207) (h1 : SlR w a1 n1 (cl1.flatMap GStep.cells)) (h2 : SlR w a2 n2 (cl2.flatMap GStep.cells)) (hs1 : StL w Tr cl1 xs) (hs2 : StL w Tr cl2 xs) (hbz : ∀ i, i < xs.length → xs[i]!.Value.size ≤ 4611686018427387903 ∧ xs[i]!.L.length ≤ 4611686018427387903) :
    Calls Tryd.prog 10 #[.slice a1 n1 c1, .slice a2 n2 c2] w (fun x w' => x = .returned (.bool true) ∧ Fram Non w w') := by
  have hl1 := hs1.1
  have hl2 := hs2.1
  refine calls_of Tryd.func10 rfl 69 rfl (by simp) ?_
  have hp0 := Hp.init w
  have he0 : List.map (env0 [.slice a1 n1 c1, .slice a2 n2 c2]) [0, 1] = [.slice a1 n1 c1, .slice a2 n2 c2] := by kernel_rfl
  obtain ⟨b0, he0⟩ := toMk he0
  rw [he0]
  clear he0
  refine WP.seq ?_
  refine WP.pure {} [] [0, 1] [.slice a1 n1 c1, .slice a2 n2 c2] .nil (by kernel_rfl) (fun b1 => ?_)
  refine thn_n ?_
  refine WP.seq ?_
  refine WP.seq ?_
  refine WP.pure {} [] [0, 1, 12] [.slice a1 n1 c1, .slice a2 n2 c2, .bool (decide (¬ (((n1 : Nat) : Int) = ((n2 : Nat) : Int))))] .nil (by kernel_rfl) (fun b2 => ?_)
  refine thn_n ?_
  refine WP.test (p := ¬ (((n1 : Nat) : Int) = ((n2 : Nat) : Int))) rfl Bp.dec (fun h3 => ?_) (fun h3 => ?_)
  · refine WP.seq ?_
    refine WP.pure {} [] [4] [.bool false] .nil (by kernel_rfl) (fun b4 => ?_)
    refine thn_n ?_
    refine WP.ret ?_
    refine thn_r ?_
    refine bodyQ.of _ rfl [.bool false] ⟨rfl, trivial⟩ ?_
    exfalso
    have h_ := h3
    first | omega | (simp [e1, e2, e3, e4] at h_; done) | (simp_all; done)
  · replace h3 := Classical.not_not.1 h3
    refine WP.skip ?_
    refine thn_n ?_
    refine WP.seq ?_
    refine WP.seq ?_
    refine WP.pure {} [] [0, 1, 14, 15] [.slice a1 n1 c1, .slice a2 n2 c2, .int .i64 ((n1 : Nat) : Int), .int .i64 0] .nil (by kernel_rfl) (fun b5 => ?_)
    refine thn_n ?_
    refine WP.block ?_
    refine WP.loop (fun mz_ e6 w7 => ∃ (k : Nat), mz_ = n1 - k ∧ (k ≤ n1) ∧ List.map e6 [0, 1, 14, 15] = [.slice a1 n1 c1, .slice a2 n2 c2, .int .i64 ((n1 : Nat) : Int), .int .i64 (k : Int)] ∧ Hp w Non [] w7) (n1 - (0)) ⟨0, rfl, (by omega), by kernel_rfl, hp0⟩ ?_
    rintro _ e6 w7 ⟨k, rfl, hI9, hE10, hp8⟩
    obtain ⟨b11, rfl⟩ := toMk hE10
    clear hE10
    obtain pa := hI9
    refine WP.seq ?_
    refine WP.pure {} [] [0, 1, 14, 15, 16] [.slice a1 n1 c1, .slice a2 n2 c2, .int .i64 ((n1 : Nat) : Int), .int .i64 (k : Int), .bool (decide ((k : Int) < ((n1 : Nat) : Int)))] .nil (by kernel_rfl) (fun b12 => ?_)
    refine thn_n ?_
    refine WP.seq ?_
    refine WP.test (p := (k : Int) < ((n1 : Nat) : Int)) rfl Bp.dec (fun h13 => ?_) (fun h13 => ?_)
    · refine WP.skip ?_
      refine thn_n ?_
      refine WP.seq ?_
      refine WP.block ?_
      refine WP.seq ?_
      have hu1 := hs1.2 k (by omega)
      have hu2 := hs2.2 k (by omega)
      have e1 : cl2[k]!.Kind = cl1[k]!.Kind := hu2.kind.trans hu1.kind.symm
      have e2 : cl2[k]!.A = cl1[k]!.A := hu2.a.trans hu1.a.symm
      have e3 : cl2[k]!.B = cl1[k]!.B := hu2.b.trans hu1.b.symm
      have e4 : cl2[k]!.Key = cl1[k]!.Key := hu2.key.trans hu1.key.symm
      refine WP.pure {} [] [0, 1, 5, 14, 15] [.slice a1 n1 c1, .slice a2 n2 c2, .int .i64 (k : Int), .int .i64 ((n1 : Nat) : Int), .int .i64 (k : Int)] .nil (by kernel_rfl) (fun b14 => ?_)
      refine thn_n ?_
      refine WP.seq ?_
      have hp15 := hp8.drew
      have hy17 : (cl1)[k]? = some cl1[k]! := get_bang (by first | (omega) | (simp only [List.length_append, List.length_cons, List.length_nil]; omega) | (simp only [List.length_take, List.length_append, List.length_cons, List.length_nil]; omega))
      have hy19 : (cl2)[k]? = some cl2[k]! := get_bang (by first | (omega) | (simp only [List.length_append, List.length_cons, List.length_nil]; omega) | (simp only [List.length_take, List.length_append, List.length_cons, List.length_nil]; omega))
      refine WP.tree (fun w20 => Ld Tryd.prog w20 29 ((adr a1).add (k * 6)) (GStep.val (cl1[k]!)) ∧ Ld Tryd.prog w20 29 ((adr a2).add (k * 6)) (GStep.val (cl2[k]!)) ∧ True) [] 12 (np_thn (np_blk (np_thn (np_thn (np_blk (np_thn np_body)))))) (by kernel_rfl) ?_
      refine HT.pre (l := [(0, true), (1, true), (2, true), (3, true), (4, true), (5, true), (6, true), (7, true)]) (n := 4) (by kernel_rfl) ?_
      refine HOPS.take 8 {} [GStep.val (cl1[k]!), GStep.val (cl2[k]!)] [0, 1, 14, 15, 21, 25] [.slice a1 n1 c1, .slice a2 n2 c2, .int .i64 ((n1 : Nat) : Int), .int .i64 (k : Int), GStep.val (cl1[k]!), GStep.val (cl2[k]!)] (by kernel_rfl) ⟨(show Ld Tryd.prog w7.drew 29 ((adr a1).add (k * 6)) (GStep.val (cl1[k]!)) from (Ld.add0 (Ld.elN (P := Tryd.prog) (t := 29) (h1.at hp15).rd 6 (fun _ => rfl) hy17 (o := 0) (cs := [.int .i64 (cl1[k]!.Kind), .int .i64 (cl1[k]!.A), .int .i64 (cl1[k]!.B), .string (cl1[k]!.Key), .slice (cl1[k]!.Value.a) (cl1[k]!.Value.n) (cl1[k]!.Value.c), .slice (cl1[k]!.L.a) (cl1[k]!.L.n) (cl1[k]!.L.c)]) (by kernel_rfl)))), (show Ld Tryd.prog w7.drew 29 ((adr a2).add (k * 6)) (GStep.val (cl2[k]!)) from (Ld.add0 (Ld.elN (P := Tryd.prog) (t := 29) (h2.at hp15).rd 6 (fun _ => rfl) hy19 (o := 0) (cs := [.int .i64 (cl2[k]!.Kind), .int .i64 (cl2[k]!.A), .int .i64 (cl2[k]!.B), .string (cl2[k]!.Key), .slice (cl2[k]!.Value.a) (cl2[k]!.Value.n) (cl2[k]!.Value.c), .slice (cl2[k]!.L.a) (cl2[k]!.L.n) (cl2[k]!.L.c)]) (by kernel_rfl)))), trivial⟩ (fun w21 hS22 => QB.mk (.cons (show InB ((k : Int)) (n1) from ⟨by omega, by omega⟩) (.cons ((h1.at hp15).some (by omega)) (.cons (hS22.1) (.cons (show InB ((k : Int)) (n2) from ⟨by omega, by omega⟩) (.cons ((h2.at hp15).some (by omega)) (.cons (hS22.2.1) .nil)))))) (by kernel_rfl)) (fun b23 => ?_)
      refine HOPS.nil (QN.n ?_)
      refine HT.br (n := 3) [8, 9] (by kernel_rfl) (by simp) ?_
      refine AllR.cons _ rfl ?_ ?_
      · refine (opStep.alloc hp15 [.int .i64 0, .int .i64 0, .int .i64 0, .string ByteArray.empty, .slice none 0 0, .slice none 0 0] (by kernel_rfl) (fun g26 w24 hp25 => ?_))
        refine ⟨.inr ⟨(show Ld Tryd.prog w24 29 ((adr a1).add (k * 6)) (GStep.val (cl1[k]!)) from (Ld.add0 (Ld.elN (P := Tryd.prog) (t := 29) (h1.at hp25).rd 6 (fun _ => rfl) hy17 (o := 0) (cs := [.int .i64 (cl1[k]!.Kind), .int .i64 (cl1[k]!.A), .int .i64 (cl1[k]!.B), .string (cl1[k]!.Key), .slice (cl1[k]!.Value.a) (cl1[k]!.Value.n) (cl1[k]!.Value.c), .slice (cl1[k]!.L.a) (cl1[k]!.L.n) (cl1[k]!.L.c)]) (by kernel_rfl)))), (show Ld Tryd.prog w24 29 ((adr a2).add (k * 6)) (GStep.val (cl2[k]!)) from (Ld.add0 (Ld.elN (P := Tryd.prog) (t := 29) (h2.at hp25).rd 6 (fun _ => rfl) hy19 (o := 0) (cs := [.int .i64 (cl2[k]!.Kind), .int .i64 (cl2[k]!.A), .int .i64 (cl2[k]!.B), .string (cl2[k]!.Key), .slice (cl2[k]!.Value.a) (cl2[k]!.Value.n) (cl2[k]!.Value.c), .slice (cl2[k]!.L.a) (cl2[k]!.L.n) (cl2[k]!.L.c)]) (by kernel_rfl)))), trivial⟩, ?_⟩
        refine HT.br (n := 2) [9] (by kernel_rfl) (by simp) ?_
        refine AllR.cons _ rfl ?_ AllR.nil
        refine (opStep.alloc hp25 [.int .i64 0, .int .i64 0, .int .i64 0, .string ByteArray.empty, .slice none 0 0, .slice none 0 0] (by kernel_rfl) (fun g29 w27 hp28 => ?_))
        refine ⟨.inr ⟨(show Ld Tryd.prog w27 29 ((adr a1).add (k * 6)) (GStep.val (cl1[k]!)) from (Ld.add0 (Ld.elN (P := Tryd.prog) (t := 29) (h1.at hp28).rd 6 (fun _ => rfl) hy17 (o := 0) (cs := [.int .i64 (cl1[k]!.Kind), .int .i64 (cl1[k]!.A), .int .i64 (cl1[k]!.B), .string (cl1[k]!.Key), .slice (cl1[k]!.Value.a) (cl1[k]!.Value.n) (cl1[k]!.Value.c), .slice (cl1[k]!.L.a) (cl1[k]!.L.n) (cl1[k]!.L.c)]) (by kernel_rfl)))), (show Ld Tryd.prog w27 29 ((adr a2).add (k * 6)) (GStep.val (cl2[k]!)) from (Ld.add0 (Ld.elN (P := Tryd.prog) (t := 29) (h2.at hp28).rd 6 (fun _ => rfl) hy19 (o := 0) (cs := [.int .i64 (cl2[k]!.Kind), .int .i64 (cl2[k]!.A), .int .i64 (cl2[k]!.B), .string (cl2[k]!.Key), .slice (cl2[k]!.Value.a) (cl2[k]!.Value.n) (cl2[k]!.Value.c), .slice (cl2[k]!.L.a) (cl2[k]!.L.n) (cl2[k]!.L.c)]) (by kernel_rfl)))), trivial⟩, ?_⟩
        refine HT.br (n := 1) [10] (by kernel_rfl) (by simp) ?_
        refine AllR.cons _ rfl ?_ AllR.nil
        refine (opStep.store1 hp28 rfl [.int .i64 (cl1[k]!.Kind), .int .i64 (cl1[k]!.A), .int .i64 (cl1[k]!.B), .string (cl1[k]!.Key), .slice (cl1[k]!.Value.a) (cl1[k]!.Value.n) (cl1[k]!.Value.c), .slice (cl1[k]!.L.a) (cl1[k]!.L.n) (cl1[k]!.L.c)] [.int .i64 (cl1[k]!.Kind), .int .i64 (cl1[k]!.A), .int .i64 (cl1[k]!.B), .string (cl1[k]!.Key), .slice (cl1[k]!.Value.a) (cl1[k]!.Value.n) (cl1[k]!.Value.c), .slice (cl1[k]!.L.a) (cl1[k]!.L.n) (cl1[k]!.L.c)] (by kernel_rfl) (fun w30 hp31 => ?_))
        refine ⟨.inr ⟨(show Ld Tryd.prog w30 29 ((adr a1).add (k * 6)) (GStep.val (cl1[k]!)) from (Ld.add0 (Ld.elN (P := Tryd.prog) (t := 29) (h1.at hp31).rd 6 (fun _ => rfl) hy17 (o := 0) (cs := [.int .i64 (cl1[k]!.Kind), .int .i64 (cl1[k]!.A), .int .i64 (cl1[k]!.B), .string (cl1[k]!.Key), .slice (cl1[k]!.Value.a) (cl1[k]!.Value.n) (cl1[k]!.Value.c), .slice (cl1[k]!.L.a) (cl1[k]!.L.n) (cl1[k]!.L.c)]) (by kernel_rfl)))), (show Ld Tryd.prog w30 29 ((adr a2).add (k * 6)) (GStep.val (cl2[k]!)) from (Ld.add0 (Ld.elN (P := Tryd.prog) (t := 29) (h2.at hp31).rd 6 (fun _ => rfl) hy19 (o := 0) (cs := [.int .i64 (cl2[k]!.Kind), .int .i64 (cl2[k]!.A), .int .i64 (cl2[k]!.B), .string (cl2[k]!.Key), .slice (cl2[k]!.Value.a) (cl2[k]!.Value.n) (cl2[k]!.Value.c), .slice (cl2[k]!.L.a) (cl2[k]!.L.n) (cl2[k]!.L.c)]) (by kernel_rfl)))), trivial⟩, ?_⟩
        refine HT.br (n := 0) [11] (by kernel_rfl) (by simp) ?_
        refine AllR.cons _ rfl ?_ AllR.nil
        refine (opStep.store0 hp31 rfl [.int .i64 (cl2[k]!.Kind), .int .i64 (cl2[k]!.A), .int .i64 (cl2[k]!.B), .string (cl2[k]!.Key), .slice (cl2[k]!.Value.a) (cl2[k]!.Value.n) (cl2[k]!.Value.c), .slice (cl2[k]!.L.a) (cl2[k]!.L.n) (cl2[k]!.L.c)] [.int .i64 (cl2[k]!.Kind), .int .i64 (cl2[k]!.A), .int .i64 (cl2[k]!.B), .string (cl2[k]!.Key), .slice (cl2[k]!.Value.a) (cl2[k]!.Value.n) (cl2[k]!.Value.c), .slice (cl2[k]!.L.a) (cl2[k]!.L.n) (cl2[k]!.L.c)] (by kernel_rfl) (fun w32 hp33 => ?_))
        refine ⟨.inr ⟨(show Ld Tryd.prog w32 29 ((adr a1).add (k * 6)) (GStep.val (cl1[k]!)) from (Ld.add0 (Ld.elN (P := Tryd.prog) (t := 29) (h1.at hp33).rd 6 (fun _ => rfl) hy17 (o := 0) (cs := [.int .i64 (cl1[k]!.Kind), .int .i64 (cl1[k]!.A), .int .i64 (cl1[k]!.B), .string (cl1[k]!.Key), .slice (cl1[k]!.Value.a) (cl1[k]!.Value.n) (cl1[k]!.Value.c), .slice (cl1[k]!.L.a) (cl1[k]!.L.n) (cl1[k]!.L.c)]) (by kernel_rfl)))), (show Ld Tryd.prog w32 29 ((adr a2).add (k * 6)) (GStep.val (cl2[k]!)) from (Ld.add0 (Ld.elN (P := Tryd.prog) (t := 29) (h2.at hp33).rd 6 (fun _ => rfl) hy19 (o := 0) (cs := [.int .i64 (cl2[k]!.Kind), .int .i64 (cl2[k]!.A), .int .i64 (cl2[k]!.B), .string (cl2[k]!.Key), .slice (cl2[k]!.Value.a) (cl2[k]!.Value.n) (cl2[k]!.Value.c), .slice (cl2[k]!.L.a) (cl2[k]!.L.n) (cl2[k]!.L.c)]) (by kernel_rfl)))), trivial⟩, ?_⟩
        refine HT.done (by kernel_rfl) ?_
        refine thn_n ?_
        refine WP.cut (fun e70 w71 => ∃ (x68 : Bool), (True) ∧ Bp x68 (((¬ ((cl1[k]!.Kind) = (cl2[k]!.Kind)))) ∨ (((cl1[k]!.Kind) = (cl2[k]!.Kind)) ∧ (¬ ((cl1[k]!.A) = (cl2[k]!.A)))) ∨ (((cl1[k]!.Kind) = (cl2[k]!.Kind)) ∧ ((cl1[k]!.A) = (cl2[k]!.A)) ∧ (¬ ((cl1[k]!.B) = (cl2[k]!.B)))) ∨ (((cl1[k]!.Kind) = (cl2[k]!.Kind)) ∧ ((cl1[k]!.A) = (cl2[k]!.A)) ∧ ((cl1[k]!.B) = (cl2[k]!.B)) ∧ (¬ ((cl1[k]!.Key) = (cl2[k]!.Key))))) ∧ List.map e70 [0, 1, 14, 15, 67] = [.slice a1 n1 c1, .slice a2 n2 c2, .int .i64 ((n1 : Nat) : Int), .int .i64 (k : Int), .bool x68] ∧ Hp w Non [Res.row g29 [.int .i64 (cl2[k]!.Kind), .int .i64 (cl2[k]!.A), .int .i64 (cl2[k]!.B), .string (cl2[k]!.Key), .slice (cl2[k]!.Value.a) (cl2[k]!.Value.n) (cl2[k]!.Value.c), .slice (cl2[k]!.L.a) (cl2[k]!.L.n) (cl2[k]!.L.c)] 29, Res.row g26 [.int .i64 (cl1[k]!.Kind), .int .i64 (cl1[k]!.A), .int .i64 (cl1[k]!.B), .string (cl1[k]!.Key), .slice (cl1[k]!.Value.a) (cl1[k]!.Value.n) (cl1[k]!.Value.c), .slice (cl1[k]!.L.a) (cl1[k]!.L.n) (cl1[k]!.L.c)] 29] w71) ?_ ?_
        · refine WP.region _ rfl (by kernel_rfl) ?_
          refine OPS.batch 6 {} [.int .i64 (cl1[k]!.Kind), .int .i64 (cl2[k]!.Kind)] [0, 1, 6, 7, 14, 15, 31] [.slice a1 n1 c1, .slice a2 n2 c2, .pointer (some ⟨g26, 0, none⟩), .pointer (some ⟨g29, 0, none⟩), .int .i64 ((n1 : Nat) : Int), .int .i64 (k : Int), .bool (decide (¬ ((cl1[k]!.Kind) = (cl2[k]!.Kind))))] (.cons (Ld.row1 (P := Tryd.prog) (t := 3) (o := 0) (v := .int .i64 (cl1[k]!.Kind)) hp33.get1 (by kernel_rfl)) (.cons (Ld.row1 (P := Tryd.prog) (t := 3) (o := 0) (v := .int .i64 (cl2[k]!.Kind)) hp33.get0 (by kernel_rfl)) .nil)) (by kernel_rfl) (fun b35 => ?_)
          by_cases h36 : (cl1[k]!.Kind) = (cl2[k]!.Kind)
          · refine OPS.batch 0 {} [] [0, 1, 6, 7, 14, 15, 31] [.slice a1 n1 c1, .slice a2 n2 c2, .pointer (some ⟨g26, 0, none⟩), .pointer (some ⟨g29, 0, none⟩), .int .i64 ((n1 : Nat) : Int), .int .i64 (k : Int), .bool (decide (¬ ((cl1[k]!.Kind) = (cl2[k]!.Kind))))] .nil (by kernel_rfl) (fun b39 => ?_)
            refine OPS.re [.slice a1 n1 c1, .slice a2 n2 c2, .pointer (some ⟨g26, 0, none⟩), .pointer (some ⟨g29, 0, none⟩), .int .i64 ((n1 : Nat) : Int), .int .i64 (k : Int), .bool false] (by rw [show (decide (¬ ((cl1[k]!.Kind) = (cl2[k]!.Kind)))) = false from Bp.dec.ff (fun k => k h36)]) ?_
            refine OPS.batch 7 { wraps := [37] } [.int .i64 (cl1[k]!.A), .int .i64 (cl2[k]!.A)] [0, 1, 6, 7, 14, 15, 38] [.slice a1 n1 c1, .slice a2 n2 c2, .pointer (some ⟨g26, 0, none⟩), .pointer (some ⟨g29, 0, none⟩), .int .i64 ((n1 : Nat) : Int), .int .i64 (k : Int), .bool (decide (¬ ((cl1[k]!.A) = (cl2[k]!.A))))] (.cons (Ld.row1 (P := Tryd.prog) (t := 3) (o := 1) (v := .int .i64 (cl1[k]!.A)) hp33.get1 (by kernel_rfl)) (.cons (Ld.row1 (P := Tryd.prog) (t := 3) (o := 1) (v := .int .i64 (cl2[k]!.A)) hp33.get0 (by kernel_rfl)) .nil)) (by kernel_rfl) (fun b40 => ?_)
            by_cases h41 : (cl1[k]!.A) = (cl2[k]!.A)
            · refine OPS.batch 0 {} [] [0, 1, 6, 7, 14, 15, 38] [.slice a1 n1 c1, .slice a2 n2 c2, .pointer (some ⟨g26, 0, none⟩), .pointer (some ⟨g29, 0, none⟩), .int .i64 ((n1 : Nat) : Int), .int .i64 (k : Int), .bool (decide (¬ ((cl1[k]!.A) = (cl2[k]!.A))))] .nil (by kernel_rfl) (fun b44 => ?_)
              refine OPS.re [.slice a1 n1 c1, .slice a2 n2 c2, .pointer (some ⟨g26, 0, none⟩), .pointer (some ⟨g29, 0, none⟩), .int .i64 ((n1 : Nat) : Int), .int .i64 (k : Int), .bool false] (by rw [show (decide (¬ ((cl1[k]!.A) = (cl2[k]!.A)))) = false from Bp.dec.ff (fun k => k h41)]) ?_
              refine OPS.batch 7 { wraps := [44] } [.int .i64 (cl1[k]!.B), .int .i64 (cl2[k]!.B)] [0, 1, 6, 7, 14, 15, 45] [.slice a1 n1 c1, .slice a2 n2 c2, .pointer (some ⟨g26, 0, none⟩), .pointer (some ⟨g29, 0, none⟩), .int .i64 ((n1 : Nat) : Int), .int .i64 (k : Int), .bool (decide (¬ ((cl1[k]!.B) = (cl2[k]!.B))))] (.cons (Ld.row1 (P := Tryd.prog) (t := 3) (o := 2) (v := .int .i64 (cl1[k]!.B)) hp33.get1 (by kernel_rfl)) (.cons (Ld.row1 (P := Tryd.prog) (t := 3) (o := 2) (v := .int .i64 (cl2[k]!.B)) hp33.get0 (by kernel_rfl)) .nil)) (by kernel_rfl) (fun b45 => ?_)
              by_cases h46 : (cl1[k]!.B) = (cl2[k]!.B)
              · refine OPS.batch 0 {} [] [0, 1, 6, 7, 14, 15, 45] [.slice a1 n1 c1, .slice a2 n2 c2, .pointer (some ⟨g26, 0, none⟩), .pointer (some ⟨g29, 0, none⟩), .int .i64 ((n1 : Nat) : Int), .int .i64 (k : Int), .bool (decide (¬ ((cl1[k]!.B) = (cl2[k]!.B))))] .nil (by kernel_rfl) (fun b49 => ?_)
                refine OPS.re [.slice a1 n1 c1, .slice a2 n2 c2, .pointer (some ⟨g26, 0, none⟩), .pointer (some ⟨g29, 0, none⟩), .int .i64 ((n1 : Nat) : Int), .int .i64 (k : Int), .bool false] (by rw [show (decide (¬ ((cl1[k]!.B) = (cl2[k]!.B)))) = false from Bp.dec.ff (fun k => k h46)]) ?_
                refine OPS.batch 7 { wraps := [51] } [.string (cl1[k]!.Key), .string (cl2[k]!.Key)] [0, 1, 6, 7, 14, 15, 52] [.slice a1 n1 c1, .slice a2 n2 c2, .pointer (some ⟨g26, 0, none⟩), .pointer (some ⟨g29, 0, none⟩), .int .i64 ((n1 : Nat) : Int), .int .i64 (k : Int), .bool (decide (¬ ((cl1[k]!.Key) = (cl2[k]!.Key))))] (.cons (Ld.row1 (P := Tryd.prog) (t := 9) (o := 3) (v := .string (cl1[k]!.Key)) hp33.get1 (by kernel_rfl)) (.cons (Ld.row1 (P := Tryd.prog) (t := 9) (o := 3) (v := .string (cl2[k]!.Key)) hp33.get0 (by kernel_rfl)) .nil)) (by kernel_rfl) (fun b50 => ?_)
                by_cases h51 : (cl1[k]!.Key) = (cl2[k]!.Key)
                · refine OPS.batch 0 {} [] [0, 1, 6, 7, 14, 15, 52] [.slice a1 n1 c1, .slice a2 n2 c2, .pointer (some ⟨g26, 0, none⟩), .pointer (some ⟨g29, 0, none⟩), .int .i64 ((n1 : Nat) : Int), .int .i64 (k : Int), .bool (decide (¬ ((cl1[k]!.Key) = (cl2[k]!.Key))))] .nil (by kernel_rfl) (fun b54 => ?_)
                  refine OPS.re [.slice a1 n1 c1, .slice a2 n2 c2, .pointer (some ⟨g26, 0, none⟩), .pointer (some ⟨g29, 0, none⟩), .int .i64 ((n1 : Nat) : Int), .int .i64 (k : Int), .bool false] (by rw [show (decide (¬ ((cl1[k]!.Key) = (cl2[k]!.Key)))) = false from Bp.dec.ff (fun k => k h51)]) ?_
                  refine OPS.batch 4 {} [.slice (cl1[k]!.Value.a) (cl1[k]!.Value.n) (cl1[k]!.Value.c), .slice (cl2[k]!.Value.a) (cl2[k]!.Value.n) (cl2[k]!.Value.c)] [0, 1, 6, 7, 14, 15, 52, 54, 56] [.slice a1 n1 c1, .slice a2 n2 c2, .pointer (some ⟨g26, 0, none⟩), .pointer (some ⟨g29, 0, none⟩), .int .i64 ((n1 : Nat) : Int), .int .i64 (k : Int), .bool false, .slice (cl1[k]!.Value.a) (cl1[k]!.Value.n) (cl1[k]!.Value.c), .slice (cl2[k]!.Value.a) (cl2[k]!.Value.n) (cl2[k]!.Value.c)] (.cons (Ld.row1 (P := Tryd.prog) (t := 26) (o := 4) (v := .slice (cl1[k]!.Value.a) (cl1[k]!.Value.n) (cl1[k]!.Value.c)) hp33.get1 (by kernel_rfl)) (.cons (Ld.row1 (P := Tryd.prog) (t := 26) (o := 4) (v := .slice (cl2[k]!.Value.a) (cl2[k]!.Value.n) (cl2[k]!.Value.c)) hp33.get0 (by kernel_rfl)) .nil)) (by kernel_rfl) (fun b55 => ?_)
                  refine OPS.want (by kernel_rfl) ?_
                  refine OPS.cons (opStep.call (some 57) [.slice (cl1[k]!.Value.a) (cl1[k]!.Value.n) (cl1[k]!.Value.c), .slice (cl2[k]!.Value.a) (cl2[k]!.Value.n) (cl2[k]!.Value.c)] (by kernel_rfl) (tp_bytes (bytesI xs[k]!.Value) _ _ _ _ _ _ _ (by rw [bytesI_len]; exact hu1.vn) (by rw [bytesI_len]; exact hu2.vn) (SlR.fram hu1.vr hp33.fr) (SlR.fram hu2.vr hp33.fr) (by rw [bytesI_len]; exact (hbz k (by omega)).1)) ?_)
                  rintro _ w58 ⟨rfl, hf59⟩
                  refine ⟨_, rfl, ?_⟩
                  have hp60 := hp33.step hf59
                  refine OPS.batch 7 { wraps := [59] } [.slice (cl1[k]!.L.a) (cl1[k]!.L.n) (cl1[k]!.L.c), .slice (cl2[k]!.L.a) (cl2[k]!.L.n) (cl2[k]!.L.c)] [0, 1, 14, 15, 60, 62, 64] [.slice a1 n1 c1, .slice a2 n2 c2, .int .i64 ((n1 : Nat) : Int), .int .i64 (k : Int), .bool false, .slice (cl1[k]!.L.a) (cl1[k]!.L.n) (cl1[k]!.L.c), .slice (cl2[k]!.L.a) (cl2[k]!.L.n) (cl2[k]!.L.c)] (.cons (Ld.row1 (P := Tryd.prog) (t := 27) (o := 5) (v := .slice (cl1[k]!.L.a) (cl1[k]!.L.n) (cl1[k]!.L.c)) hp60.get1 (by kernel_rfl)) (.cons (Ld.row1 (P := Tryd.prog) (t := 27) (o := 5) (v := .slice (cl2[k]!.L.a) (cl2[k]!.L.n) (cl2[k]!.L.c)) hp60.get0 (by kernel_rfl)) .nil)) (by kernel_rfl) (fun b61 => ?_)
                  refine OPS.want (by kernel_rfl) ?_
                  refine OPS.cons (opStep.call (some 65) [.slice (cl1[k]!.L.a) (cl1[k]!.L.n) (cl1[k]!.L.c), .slice (cl2[k]!.L.a) (cl2[k]!.L.n) (cl2[k]!.L.c)] (by kernel_rfl) (tp_ints xs[k]!.L _ _ _ _ _ _ _ hu1.ln hu2.ln (SlR.fram hu1.lr hp60.fr) (SlR.fram hu2.lr hp60.fr) (hbz k (by omega)).2) ?_)
                  rintro _ w64 ⟨rfl, hf65⟩
                  refine ⟨_, rfl, ?_⟩
                  have hp66 := hp60.step hf65
                  refine OPS.batch 2 { wraps := [67] } [] [0, 1, 14, 15, 67] [.slice a1 n1 c1, .slice a2 n2 c2, .int .i64 ((n1 : Nat) : Int), .int .i64 (k : Int), .bool false] .nil (by kernel_rfl) (fun b67 => ?_)
                  refine OPS.nil ?_
                  refine thn_n ?_
                  exact ⟨false, trivial, Bp.of Bp.f (by first | (simp only [h36, h41, h46, h51, iff_false, false_iff, iff_true, true_iff, Classical.not_not, and_true, true_and, and_false, false_and, or_true, true_or, or_false, false_or, not_true_eq_false, not_false_eq_true, and_self, or_self, iff_self]; done) | (simp [h36, h41, h46, h51]; done) | grind | (simp_all; done)), by kernel_rfl, hp66⟩
                · refine OPS.batch 0 {} [] [0, 1, 6, 7, 14, 15, 52] [.slice a1 n1 c1, .slice a2 n2 c2, .pointer (some ⟨g26, 0, none⟩), .pointer (some ⟨g29, 0, none⟩), .int .i64 ((n1 : Nat) : Int), .int .i64 (k : Int), .bool (decide (¬ ((cl1[k]!.Key) = (cl2[k]!.Key))))] .nil (by kernel_rfl) (fun b52 => ?_)
                  refine OPS.re [.slice a1 n1 c1, .slice a2 n2 c2, .pointer (some ⟨g26, 0, none⟩), .pointer (some ⟨g29, 0, none⟩), .int .i64 ((n1 : Nat) : Int), .int .i64 (k : Int), .bool true] (by rw [show (decide (¬ ((cl1[k]!.Key) = (cl2[k]!.Key)))) = true from Bp.dec.tt h51]) ?_
                  refine OPS.batch 15 { wraps := [59, 67] } [] [0, 1, 14, 15, 67] [.slice a1 n1 c1, .slice a2 n2 c2, .int .i64 ((n1 : Nat) : Int), .int .i64 (k : Int), .bool true] .nil (by kernel_rfl) (fun b53 => ?_)
                  refine OPS.nil ?_
                  refine thn_n ?_
                  exact ⟨true, trivial, Bp.of Bp.t (by first | (simp only [h36, h41, h46, h51, iff_false, false_iff, iff_true, true_iff, Classical.not_not, and_true, true_and, and_false, false_and, or_true, true_or, or_false, false_or, not_true_eq_false, not_false_eq_true, and_self, or_self, iff_self]; done) | (simp [h36, h41, h46, h51]; done) | grind | (simp_all; done)), by kernel_rfl, hp33⟩
              · refine OPS.batch 0 {} [] [0, 1, 6, 7, 14, 15, 45] [.slice a1 n1 c1, .slice a2 n2 c2, .pointer (some ⟨g26, 0, none⟩), .pointer (some ⟨g29, 0, none⟩), .int .i64 ((n1 : Nat) : Int), .int .i64 (k : Int), .bool (decide (¬ ((cl1[k]!.B) = (cl2[k]!.B))))] .nil (by kernel_rfl) (fun b47 => ?_)
                refine OPS.re [.slice a1 n1 c1, .slice a2 n2 c2, .pointer (some ⟨g26, 0, none⟩), .pointer (some ⟨g29, 0, none⟩), .int .i64 ((n1 : Nat) : Int), .int .i64 (k : Int), .bool true] (by rw [show (decide (¬ ((cl1[k]!.B) = (cl2[k]!.B)))) = true from Bp.dec.tt h46]) ?_
                refine OPS.batch 22 { wraps := [51, 59, 67] } [] [0, 1, 14, 15, 67] [.slice a1 n1 c1, .slice a2 n2 c2, .int .i64 ((n1 : Nat) : Int), .int .i64 (k : Int), .bool true] .nil (by kernel_rfl) (fun b48 => ?_)
                refine OPS.nil ?_
                refine thn_n ?_
                exact ⟨true, trivial, Bp.of Bp.t (by first | (simp only [h36, h41, h46, iff_false, false_iff, iff_true, true_iff, Classical.not_not, and_true, true_and, and_false, false_and, or_true, true_or, or_false, false_or, not_true_eq_false, not_false_eq_true, and_self, or_self, iff_self]; done) | (simp [h36, h41, h46]; done) | grind | (simp_all; done)), by kernel_rfl, hp33⟩
            · refine OPS.batch 0 {} [] [0, 1, 6, 7, 14, 15, 38] [.slice a1 n1 c1, .slice a2 n2 c2, .pointer (some ⟨g26, 0, none⟩), .pointer (some ⟨g29, 0, none⟩), .int .i64 ((n1 : Nat) : Int), .int .i64 (k : Int), .bool (decide (¬ ((cl1[k]!.A) = (cl2[k]!.A))))] .nil (by kernel_rfl) (fun b42 => ?_)
              refine OPS.re [.slice a1 n1 c1, .slice a2 n2 c2, .pointer (some ⟨g26, 0, none⟩), .pointer (some ⟨g29, 0, none⟩), .int .i64 ((n1 : Nat) : Int), .int .i64 (k : Int), .bool true] (by rw [show (decide (¬ ((cl1[k]!.A) = (cl2[k]!.A)))) = true from Bp.dec.tt h41]) ?_
              refine OPS.batch 29 { wraps := [44, 51, 59, 67] } [] [0, 1, 14, 15, 67] [.slice a1 n1 c1, .slice a2 n2 c2, .int .i64 ((n1 : Nat) : Int), .int .i64 (k : Int), .bool true] .nil (by kernel_rfl) (fun b43 => ?_)
              refine OPS.nil ?_
              refine thn_n ?_
              exact ⟨true, trivial, Bp.of Bp.t (by first | (simp only [h36, h41, iff_false, false_iff, iff_true, true_iff, Classical.not_not, and_true, true_and, and_false, false_and, or_true, true_or, or_false, false_or, not_true_eq_false, not_false_eq_true, and_self, or_self, iff_self]; done) | (simp [h36, h41]; done) | grind | (simp_all; done)), by kernel_rfl, hp33⟩
          · refine OPS.batch 0 {} [] [0, 1, 6, 7, 14, 15, 31] [.slice a1 n1 c1, .slice a2 n2 c2, .pointer (some ⟨g26, 0, none⟩), .pointer (some ⟨g29, 0, none⟩), .int .i64 ((n1 : Nat) : Int), .int .i64 (k : Int), .bool (decide (¬ ((cl1[k]!.Kind) = (cl2[k]!.Kind))))] .nil (by kernel_rfl) (fun b37 => ?_)
            refine OPS.re [.slice a1 n1 c1, .slice a2 n2 c2, .pointer (some ⟨g26, 0, none⟩), .pointer (some ⟨g29, 0, none⟩), .int .i64 ((n1 : Nat) : Int), .int .i64 (k : Int), .bool true] (by rw [show (decide (¬ ((cl1[k]!.Kind) = (cl2[k]!.Kind)))) = true from Bp.dec.tt h36]) ?_
            refine OPS.batch 36 { wraps := [37, 44, 51, 59, 67] } [] [0, 1, 14, 15, 67] [.slice a1 n1 c1, .slice a2 n2 c2, .int .i64 ((n1 : Nat) : Int), .int .i64 (k : Int), .bool true] .nil (by kernel_rfl) (fun b38 => ?_)
            refine OPS.nil ?_
            refine thn_n ?_
            exact ⟨true, trivial, Bp.of Bp.t (by first | (simp only [h36, iff_false, false_iff, iff_true, true_iff, Classical.not_not, and_true, true_and, and_false, false_and, or_true, true_or, or_false, false_or, not_true_eq_false, not_false_eq_true, and_self, or_self, iff_self]; done) | (simp [h36]; done) | grind | (simp_all; done)), by kernel_rfl, hp33⟩
        rintro e70 w71 ⟨x68, hd73, hb69, hE74, hp72⟩
        obtain ⟨b75, rfl⟩ := toMk hE74
        clear hE74
        clear hd73
        refine WP.test (p := ((¬ ((cl1[k]!.Kind) = (cl2[k]!.Kind)))) ∨ (((cl1[k]!.Kind) = (cl2[k]!.Kind)) ∧ (¬ ((cl1[k]!.A) = (cl2[k]!.A)))) ∨ (((cl1[k]!.Kind) = (cl2[k]!.Kind)) ∧ ((cl1[k]!.A) = (cl2[k]!.A)) ∧ (¬ ((cl1[k]!.B) = (cl2[k]!.B)))) ∨ (((cl1[k]!.Kind) = (cl2[k]!.Kind)) ∧ ((cl1[k]!.A) = (cl2[k]!.A)) ∧ ((cl1[k]!.B) = (cl2[k]!.B)) ∧ (¬ ((cl1[k]!.Key) = (cl2[k]!.Key))))) rfl hb69 (fun h76 => ?_) (fun h76 => ?_)
        · refine WP.seq ?_
          refine WP.pure {} [] [4] [.bool false] .nil (by kernel_rfl) (fun b77 => ?_)
          refine thn_n ?_
          refine WP.ret ?_
          refine blk_r ?_
          refine thn_r ?_
          refine thn_r ?_
          refine blk_r ?_
          refine thn_r ?_
          refine bodyQ.of _ rfl [.bool false] ⟨rfl, trivial⟩ ?_
          exfalso
          have h_ := h76
          first | omega | (simp [e1, e2, e3, e4] at h_; done) | (simp_all; done)
        · refine WP.skip ?_
          refine blk_n ?_
          refine thn_n ?_
          refine WP.pure {} [] [0, 1, 14, 15] [.slice a1 n1 c1, .slice a2 n2 c2, .int .i64 ((n1 : Nat) : Int), .int .i64 ((k : Int) + 1)] (.cons (show Rng .i64 ((k : Int) + 1) from Rng.i64 (by omega)) .nil) (by kernel_rfl) (fun b78 => ?_)
          refine thn_n ?_
          exact ⟨n1 - (k + 1), (by omega), k + 1, rfl, (by omega), by kernel_rfl, (hp72.sub (.cons _ (.cons _ (.slnil))))⟩
      refine AllR.cons _ rfl ?_ AllR.nil
      refine (opStep.alloc hp15 [.int .i64 0, .int .i64 0, .int .i64 0, .string ByteArray.empty, .slice none 0 0, .slice none 0 0] (by kernel_rfl) (fun g81 w79 hp80 => ?_))
      refine ⟨.inr ⟨(show Ld Tryd.prog w79 29 ((adr a1).add (k * 6)) (GStep.val (cl1[k]!)) from (Ld.add0 (Ld.elN (P := Tryd.prog) (t := 29) (h1.at hp80).rd 6 (fun _ => rfl) hy17 (o := 0) (cs := [.int .i64 (cl1[k]!.Kind), .int .i64 (cl1[k]!.A), .int .i64 (cl1[k]!.B), .string (cl1[k]!.Key), .slice (cl1[k]!.Value.a) (cl1[k]!.Value.n) (cl1[k]!.Value.c), .slice (cl1[k]!.L.a) (cl1[k]!.L.n) (cl1[k]!.L.c)]) (by kernel_rfl)))), (show Ld Tryd.prog w79 29 ((adr a2).add (k * 6)) (GStep.val (cl2[k]!)) from (Ld.add0 (Ld.elN (P := Tryd.prog) (t := 29) (h2.at hp80).rd 6 (fun _ => rfl) hy19 (o := 0) (cs := [.int .i64 (cl2[k]!.Kind), .int .i64 (cl2[k]!.A), .int .i64 (cl2[k]!.B), .string (cl2[k]!.Key), .slice (cl2[k]!.Value.a) (cl2[k]!.Value.n) (cl2[k]!.Value.c), .slice (cl2[k]!.L.a) (cl2[k]!.L.n) (cl2[k]!.L.c)]) (by kernel_rfl)))), trivial⟩, ?_⟩
      refine HT.br (n := 2) [8] (by kernel_rfl) (by simp) ?_
      refine AllR.cons _ rfl ?_ AllR.nil
      refine (opStep.alloc hp80 [.int .i64 0, .int .i64 0, .int .i64 0, .string ByteArray.empty, .slice none 0 0, .slice none 0 0] (by kernel_rfl) (fun g84 w82 hp83 => ?_))
      refine ⟨.inr ⟨(show Ld Tryd.prog w82 29 ((adr a1).add (k * 6)) (GStep.val (cl1[k]!)) from (Ld.add0 (Ld.elN (P := Tryd.prog) (t := 29) (h1.at hp83).rd 6 (fun _ => rfl) hy17 (o := 0) (cs := [.int .i64 (cl1[k]!.Kind), .int .i64 (cl1[k]!.A), .int .i64 (cl1[k]!.B), .string (cl1[k]!.Key), .slice (cl1[k]!.Value.a) (cl1[k]!.Value.n) (cl1[k]!.Value.c), .slice (cl1[k]!.L.a) (cl1[k]!.L.n) (cl1[k]!.L.c)]) (by kernel_rfl)))), (show Ld Tryd.prog w82 29 ((adr a2).add (k * 6)) (GStep.val (cl2[k]!)) from (Ld.add0 (Ld.elN (P := Tryd.prog) (t := 29) (h2.at hp83).rd 6 (fun _ => rfl) hy19 (o := 0) (cs := [.int .i64 (cl2[k]!.Kind), .int .i64 (cl2[k]!.A), .int .i64 (cl2[k]!.B), .string (cl2[k]!.Key), .slice (cl2[k]!.Value.a) (cl2[k]!.Value.n) (cl2[k]!.Value.c), .slice (cl2[k]!.L.a) (cl2[k]!.L.n) (cl2[k]!.L.c)]) (by kernel_rfl)))), trivial⟩, ?_⟩
      refine HT.br (n := 1) [10] (by kernel_rfl) (by simp) ?_
      refine AllR.cons _ rfl ?_ AllR.nil
      refine (opStep.store0 hp83 rfl [.int .i64 (cl1[k]!.Kind), .int .i64 (cl1[k]!.A), .int .i64 (cl1[k]!.B), .string (cl1[k]!.Key), .slice (cl1[k]!.Value.a) (cl1[k]!.Value.n) (cl1[k]!.Value.c), .slice (cl1[k]!.L.a) (cl1[k]!.L.n) (cl1[k]!.L.c)] [.int .i64 (cl1[k]!.Kind), .int .i64 (cl1[k]!.A), .int .i64 (cl1[k]!.B), .string (cl1[k]!.Key), .slice (cl1[k]!.Value.a) (cl1[k]!.Value.n) (cl1[k]!.Value.c), .slice (cl1[k]!.L.a) (cl1[k]!.L.n) (cl1[k]!.L.c)] (by kernel_rfl) (fun w85 hp86 => ?_))
      refine ⟨.inr ⟨(show Ld Tryd.prog w85 29 ((adr a1).add (k * 6)) (GStep.val (cl1[k]!)) from (Ld.add0 (Ld.elN (P := Tryd.prog) (t := 29) (h1.at hp86).rd 6 (fun _ => rfl) hy17 (o := 0) (cs := [.int .i64 (cl1[k]!.Kind), .int .i64 (cl1[k]!.A), .int .i64 (cl1[k]!.B), .string (cl1[k]!.Key), .slice (cl1[k]!.Value.a) (cl1[k]!.Value.n) (cl1[k]!.Value.c), .slice (cl1[k]!.L.a) (cl1[k]!.L.n) (cl1[k]!.L.c)]) (by kernel_rfl)))), (show Ld Tryd.prog w85 29 ((adr a2).add (k * 6)) (GStep.val (cl2[k]!)) from (Ld.add0 (Ld.elN (P := Tryd.prog) (t := 29) (h2.at hp86).rd 6 (fun _ => rfl) hy19 (o := 0) (cs := [.int .i64 (cl2[k]!.Kind), .int .i64 (cl2[k]!.A), .int .i64 (cl2[k]!.B), .string (cl2[k]!.Key), .slice (cl2[k]!.Value.a) (cl2[k]!.Value.n) (cl2[k]!.Value.c), .slice (cl2[k]!.L.a) (cl2[k]!.L.n) (cl2[k]!.L.c)]) (by kernel_rfl)))), trivial⟩, ?_⟩
      refine HT.br (n := 0) [11] (by kernel_rfl) (by simp) ?_
      refine AllR.cons _ rfl ?_ AllR.nil
      refine (opStep.store1 hp86 rfl [.int .i64 (cl2[k]!.Kind), .int .i64 (cl2[k]!.A), .int .i64 (cl2[k]!.B), .string (cl2[k]!.Key), .slice (cl2[k]!.Value.a) (cl2[k]!.Value.n) (cl2[k]!.Value.c), .slice (cl2[k]!.L.a) (cl2[k]!.L.n) (cl2[k]!.L.c)] [.int .i64 (cl2[k]!.Kind), .int .i64 (cl2[k]!.A), .int .i64 (cl2[k]!.B), .string (cl2[k]!.Key), .slice (cl2[k]!.Value.a) (cl2[k]!.Value.n) (cl2[k]!.Value.c), .slice (cl2[k]!.L.a) (cl2[k]!.L.n) (cl2[k]!.L.c)] (by kernel_rfl) (fun w87 hp88 => ?_))
      refine ⟨.inr ⟨(show Ld Tryd.prog w87 29 ((adr a1).add (k * 6)) (GStep.val (cl1[k]!)) from (Ld.add0 (Ld.elN (P := Tryd.prog) (t := 29) (h1.at hp88).rd 6 (fun _ => rfl) hy17 (o := 0) (cs := [.int .i64 (cl1[k]!.Kind), .int .i64 (cl1[k]!.A), .int .i64 (cl1[k]!.B), .string (cl1[k]!.Key), .slice (cl1[k]!.Value.a) (cl1[k]!.Value.n) (cl1[k]!.Value.c), .slice (cl1[k]!.L.a) (cl1[k]!.L.n) (cl1[k]!.L.c)]) (by kernel_rfl)))), (show Ld Tryd.prog w87 29 ((adr a2).add (k * 6)) (GStep.val (cl2[k]!)) from (Ld.add0 (Ld.elN (P := Tryd.prog) (t := 29) (h2.at hp88).rd 6 (fun _ => rfl) hy19 (o := 0) (cs := [.int .i64 (cl2[k]!.Kind), .int .i64 (cl2[k]!.A), .int .i64 (cl2[k]!.B), .string (cl2[k]!.Key), .slice (cl2[k]!.Value.a) (cl2[k]!.Value.n) (cl2[k]!.Value.c), .slice (cl2[k]!.L.a) (cl2[k]!.L.n) (cl2[k]!.L.c)]) (by kernel_rfl)))), trivial⟩, ?_⟩
      refine HT.done (by kernel_rfl) ?_
      refine thn_n ?_
      refine WP.cut (fun e125 w126 => ∃ (x123 : Bool), (True) ∧ Bp x123 (((¬ ((cl1[k]!.Kind) = (cl2[k]!.Kind)))) ∨ (((cl1[k]!.Kind) = (cl2[k]!.Kind)) ∧ (¬ ((cl1[k]!.A) = (cl2[k]!.A)))) ∨ (((cl1[k]!.Kind) = (cl2[k]!.Kind)) ∧ ((cl1[k]!.A) = (cl2[k]!.A)) ∧ (¬ ((cl1[k]!.B) = (cl2[k]!.B)))) ∨ (((cl1[k]!.Kind) = (cl2[k]!.Kind)) ∧ ((cl1[k]!.A) = (cl2[k]!.A)) ∧ ((cl1[k]!.B) = (cl2[k]!.B)) ∧ (¬ ((cl1[k]!.Key) = (cl2[k]!.Key))))) ∧ List.map e125 [0, 1, 14, 15, 67] = [.slice a1 n1 c1, .slice a2 n2 c2, .int .i64 ((n1 : Nat) : Int), .int .i64 (k : Int), .bool x123] ∧ Hp w Non [Res.row g84 [.int .i64 (cl1[k]!.Kind), .int .i64 (cl1[k]!.A), .int .i64 (cl1[k]!.B), .string (cl1[k]!.Key), .slice (cl1[k]!.Value.a) (cl1[k]!.Value.n) (cl1[k]!.Value.c), .slice (cl1[k]!.L.a) (cl1[k]!.L.n) (cl1[k]!.L.c)] 29, Res.row g81 [.int .i64 (cl2[k]!.Kind), .int .i64 (cl2[k]!.A), .int .i64 (cl2[k]!.B), .string (cl2[k]!.Key), .slice (cl2[k]!.Value.a) (cl2[k]!.Value.n) (cl2[k]!.Value.c), .slice (cl2[k]!.L.a) (cl2[k]!.L.n) (cl2[k]!.L.c)] 29] w126) ?_ ?_
      · refine WP.region _ rfl (by kernel_rfl) ?_
        refine OPS.batch 6 {} [.int .i64 (cl1[k]!.Kind), .int .i64 (cl2[k]!.Kind)] [0, 1, 6, 7, 14, 15, 31] [.slice a1 n1 c1, .slice a2 n2 c2, .pointer (some ⟨g84, 0, none⟩), .pointer (some ⟨g81, 0, none⟩), .int .i64 ((n1 : Nat) : Int), .int .i64 (k : Int), .bool (decide (¬ ((cl1[k]!.Kind) = (cl2[k]!.Kind))))] (.cons (Ld.row1 (P := Tryd.prog) (t := 3) (o := 0) (v := .int .i64 (cl1[k]!.Kind)) hp88.get0 (by kernel_rfl)) (.cons (Ld.row1 (P := Tryd.prog) (t := 3) (o := 0) (v := .int .i64 (cl2[k]!.Kind)) hp88.get1 (by kernel_rfl)) .nil)) (by kernel_rfl) (fun b90 => ?_)
        by_cases h91 : (cl1[k]!.Kind) = (cl2[k]!.Kind)
        · refine OPS.batch 0 {} [] [0, 1, 6, 7, 14, 15, 31] [.slice a1 n1 c1, .slice a2 n2 c2, .pointer (some ⟨g84, 0, none⟩), .pointer (some ⟨g81, 0, none⟩), .int .i64 ((n1 : Nat) : Int), .int .i64 (k : Int), .bool (decide (¬ ((cl1[k]!.Kind) = (cl2[k]!.Kind))))] .nil (by kernel_rfl) (fun b94 => ?_)
          refine OPS.re [.slice a1 n1 c1, .slice a2 n2 c2, .pointer (some ⟨g84, 0, none⟩), .pointer (some ⟨g81, 0, none⟩), .int .i64 ((n1 : Nat) : Int), .int .i64 (k : Int), .bool false] (by rw [show (decide (¬ ((cl1[k]!.Kind) = (cl2[k]!.Kind)))) = false from Bp.dec.ff (fun k => k h91)]) ?_
          refine OPS.batch 7 { wraps := [37] } [.int .i64 (cl1[k]!.A), .int .i64 (cl2[k]!.A)] [0, 1, 6, 7, 14, 15, 38] [.slice a1 n1 c1, .slice a2 n2 c2, .pointer (some ⟨g84, 0, none⟩), .pointer (some ⟨g81, 0, none⟩), .int .i64 ((n1 : Nat) : Int), .int .i64 (k : Int), .bool (decide (¬ ((cl1[k]!.A) = (cl2[k]!.A))))] (.cons (Ld.row1 (P := Tryd.prog) (t := 3) (o := 1) (v := .int .i64 (cl1[k]!.A)) hp88.get0 (by kernel_rfl)) (.cons (Ld.row1 (P := Tryd.prog) (t := 3) (o := 1) (v := .int .i64 (cl2[k]!.A)) hp88.get1 (by kernel_rfl)) .nil)) (by kernel_rfl) (fun b95 => ?_)
          by_cases h96 : (cl1[k]!.A) = (cl2[k]!.A)
          · refine OPS.batch 0 {} [] [0, 1, 6, 7, 14, 15, 38] [.slice a1 n1 c1, .slice a2 n2 c2, .pointer (some ⟨g84, 0, none⟩), .pointer (some ⟨g81, 0, none⟩), .int .i64 ((n1 : Nat) : Int), .int .i64 (k : Int), .bool (decide (¬ ((cl1[k]!.A) = (cl2[k]!.A))))] .nil (by kernel_rfl) (fun b99 => ?_)
            refine OPS.re [.slice a1 n1 c1, .slice a2 n2 c2, .pointer (some ⟨g84, 0, none⟩), .pointer (some ⟨g81, 0, none⟩), .int .i64 ((n1 : Nat) : Int), .int .i64 (k : Int), .bool false] (by rw [show (decide (¬ ((cl1[k]!.A) = (cl2[k]!.A)))) = false from Bp.dec.ff (fun k => k h96)]) ?_
            refine OPS.batch 7 { wraps := [44] } [.int .i64 (cl1[k]!.B), .int .i64 (cl2[k]!.B)] [0, 1, 6, 7, 14, 15, 45] [.slice a1 n1 c1, .slice a2 n2 c2, .pointer (some ⟨g84, 0, none⟩), .pointer (some ⟨g81, 0, none⟩), .int .i64 ((n1 : Nat) : Int), .int .i64 (k : Int), .bool (decide (¬ ((cl1[k]!.B) = (cl2[k]!.B))))] (.cons (Ld.row1 (P := Tryd.prog) (t := 3) (o := 2) (v := .int .i64 (cl1[k]!.B)) hp88.get0 (by kernel_rfl)) (.cons (Ld.row1 (P := Tryd.prog) (t := 3) (o := 2) (v := .int .i64 (cl2[k]!.B)) hp88.get1 (by kernel_rfl)) .nil)) (by kernel_rfl) (fun b100 => ?_)
            by_cases h101 : (cl1[k]!.B) = (cl2[k]!.B)
            · refine OPS.batch 0 {} [] [0, 1, 6, 7, 14, 15, 45] [.slice a1 n1 c1, .slice a2 n2 c2, .pointer (some ⟨g84, 0, none⟩), .pointer (some ⟨g81, 0, none⟩), .int .i64 ((n1 : Nat) : Int), .int .i64 (k : Int), .bool (decide (¬ ((cl1[k]!.B) = (cl2[k]!.B))))] .nil (by kernel_rfl) (fun b104 => ?_)
              refine OPS.re [.slice a1 n1 c1, .slice a2 n2 c2, .pointer (some ⟨g84, 0, none⟩), .pointer (some ⟨g81, 0, none⟩), .int .i64 ((n1 : Nat) : Int), .int .i64 (k : Int), .bool false] (by rw [show (decide (¬ ((cl1[k]!.B) = (cl2[k]!.B)))) = false from Bp.dec.ff (fun k => k h101)]) ?_
              refine OPS.batch 7 { wraps := [51] } [.string (cl1[k]!.Key), .string (cl2[k]!.Key)] [0, 1, 6, 7, 14, 15, 52] [.slice a1 n1 c1, .slice a2 n2 c2, .pointer (some ⟨g84, 0, none⟩), .pointer (some ⟨g81, 0, none⟩), .int .i64 ((n1 : Nat) : Int), .int .i64 (k : Int), .bool (decide (¬ ((cl1[k]!.Key) = (cl2[k]!.Key))))] (.cons (Ld.row1 (P := Tryd.prog) (t := 9) (o := 3) (v := .string (cl1[k]!.Key)) hp88.get0 (by kernel_rfl)) (.cons (Ld.row1 (P := Tryd.prog) (t := 9) (o := 3) (v := .string (cl2[k]!.Key)) hp88.get1 (by kernel_rfl)) .nil)) (by kernel_rfl) (fun b105 => ?_)
              by_cases h106 : (cl1[k]!.Key) = (cl2[k]!.Key)
              · refine OPS.batch 0 {} [] [0, 1, 6, 7, 14, 15, 52] [.slice a1 n1 c1, .slice a2 n2 c2, .pointer (some ⟨g84, 0, none⟩), .pointer (some ⟨g81, 0, none⟩), .int .i64 ((n1 : Nat) : Int), .int .i64 (k : Int), .bool (decide (¬ ((cl1[k]!.Key) = (cl2[k]!.Key))))] .nil (by kernel_rfl) (fun b109 => ?_)
                refine OPS.re [.slice a1 n1 c1, .slice a2 n2 c2, .pointer (some ⟨g84, 0, none⟩), .pointer (some ⟨g81, 0, none⟩), .int .i64 ((n1 : Nat) : Int), .int .i64 (k : Int), .bool false] (by rw [show (decide (¬ ((cl1[k]!.Key) = (cl2[k]!.Key)))) = false from Bp.dec.ff (fun k => k h106)]) ?_
                refine OPS.batch 4 {} [.slice (cl1[k]!.Value.a) (cl1[k]!.Value.n) (cl1[k]!.Value.c), .slice (cl2[k]!.Value.a) (cl2[k]!.Value.n) (cl2[k]!.Value.c)] [0, 1, 6, 7, 14, 15, 52, 54, 56] [.slice a1 n1 c1, .slice a2 n2 c2, .pointer (some ⟨g84, 0, none⟩), .pointer (some ⟨g81, 0, none⟩), .int .i64 ((n1 : Nat) : Int), .int .i64 (k : Int), .bool false, .slice (cl1[k]!.Value.a) (cl1[k]!.Value.n) (cl1[k]!.Value.c), .slice (cl2[k]!.Value.a) (cl2[k]!.Value.n) (cl2[k]!.Value.c)] (.cons (Ld.row1 (P := Tryd.prog) (t := 26) (o := 4) (v := .slice (cl1[k]!.Value.a) (cl1[k]!.Value.n) (cl1[k]!.Value.c)) hp88.get0 (by kernel_rfl)) (.cons (Ld.row1 (P := Tryd.prog) (t := 26) (o := 4) (v := .slice (cl2[k]!.Value.a) (cl2[k]!.Value.n) (cl2[k]!.Value.c)) hp88.get1 (by kernel_rfl)) .nil)) (by kernel_rfl) (fun b110 => ?_)
                refine OPS.want (by kernel_rfl) ?_
                refine OPS.cons (opStep.call (some 57) [.slice (cl1[k]!.Value.a) (cl1[k]!.Value.n) (cl1[k]!.Value.c), .slice (cl2[k]!.Value.a) (cl2[k]!.Value.n) (cl2[k]!.Value.c)] (by kernel_rfl) (tp_bytes (bytesI xs[k]!.Value) _ _ _ _ _ _ _ (by rw [bytesI_len]; exact hu1.vn) (by rw [bytesI_len]; exact hu2.vn) (SlR.fram hu1.vr hp88.fr) (SlR.fram hu2.vr hp88.fr) (by rw [bytesI_len]; exact (hbz k (by omega)).1)) ?_)
                rintro _ w113 ⟨rfl, hf114⟩
                refine ⟨_, rfl, ?_⟩
                have hp115 := hp88.step hf114
                refine OPS.batch 7 { wraps := [59] } [.slice (cl1[k]!.L.a) (cl1[k]!.L.n) (cl1[k]!.L.c), .slice (cl2[k]!.L.a) (cl2[k]!.L.n) (cl2[k]!.L.c)] [0, 1, 14, 15, 60, 62, 64] [.slice a1 n1 c1, .slice a2 n2 c2, .int .i64 ((n1 : Nat) : Int), .int .i64 (k : Int), .bool false, .slice (cl1[k]!.L.a) (cl1[k]!.L.n) (cl1[k]!.L.c), .slice (cl2[k]!.L.a) (cl2[k]!.L.n) (cl2[k]!.L.c)] (.cons (Ld.row1 (P := Tryd.prog) (t := 27) (o := 5) (v := .slice (cl1[k]!.L.a) (cl1[k]!.L.n) (cl1[k]!.L.c)) hp115.get0 (by kernel_rfl)) (.cons (Ld.row1 (P := Tryd.prog) (t := 27) (o := 5) (v := .slice (cl2[k]!.L.a) (cl2[k]!.L.n) (cl2[k]!.L.c)) hp115.get1 (by kernel_rfl)) .nil)) (by kernel_rfl) (fun b116 => ?_)
                refine OPS.want (by kernel_rfl) ?_
                refine OPS.cons (opStep.call (some 65) [.slice (cl1[k]!.L.a) (cl1[k]!.L.n) (cl1[k]!.L.c), .slice (cl2[k]!.L.a) (cl2[k]!.L.n) (cl2[k]!.L.c)] (by kernel_rfl) (tp_ints xs[k]!.L _ _ _ _ _ _ _ hu1.ln hu2.ln (SlR.fram hu1.lr hp115.fr) (SlR.fram hu2.lr hp115.fr) (hbz k (by omega)).2) ?_)
                rintro _ w119 ⟨rfl, hf120⟩
                refine ⟨_, rfl, ?_⟩
                have hp121 := hp115.step hf120
                refine OPS.batch 2 { wraps := [67] } [] [0, 1, 14, 15, 67] [.slice a1 n1 c1, .slice a2 n2 c2, .int .i64 ((n1 : Nat) : Int), .int .i64 (k : Int), .bool false] .nil (by kernel_rfl) (fun b122 => ?_)
                refine OPS.nil ?_
                refine thn_n ?_
                exact ⟨false, trivial, Bp.of Bp.f (by first | (simp only [h91, h96, h101, h106, iff_false, false_iff, iff_true, true_iff, Classical.not_not, and_true, true_and, and_false, false_and, or_true, true_or, or_false, false_or, not_true_eq_false, not_false_eq_true, and_self, or_self, iff_self]; done) | (simp [h91, h96, h101, h106]; done) | grind | (simp_all; done)), by kernel_rfl, hp121⟩
              · refine OPS.batch 0 {} [] [0, 1, 6, 7, 14, 15, 52] [.slice a1 n1 c1, .slice a2 n2 c2, .pointer (some ⟨g84, 0, none⟩), .pointer (some ⟨g81, 0, none⟩), .int .i64 ((n1 : Nat) : Int), .int .i64 (k : Int), .bool (decide (¬ ((cl1[k]!.Key) = (cl2[k]!.Key))))] .nil (by kernel_rfl) (fun b107 => ?_)
                refine OPS.re [.slice a1 n1 c1, .slice a2 n2 c2, .pointer (some ⟨g84, 0, none⟩), .pointer (some ⟨g81, 0, none⟩), .int .i64 ((n1 : Nat) : Int), .int .i64 (k : Int), .bool true] (by rw [show (decide (¬ ((cl1[k]!.Key) = (cl2[k]!.Key)))) = true from Bp.dec.tt h106]) ?_
                refine OPS.batch 15 { wraps := [59, 67] } [] [0, 1, 14, 15, 67] [.slice a1 n1 c1, .slice a2 n2 c2, .int .i64 ((n1 : Nat) : Int), .int .i64 (k : Int), .bool true] .nil (by kernel_rfl) (fun b108 => ?_)
                refine OPS.nil ?_
                refine thn_n ?_
                exact ⟨true, trivial, Bp.of Bp.t (by first | (simp only [h91, h96, h101, h106, iff_false, false_iff, iff_true, true_iff, Classical.not_not, and_true, true_and, and_false, false_and, or_true, true_or, or_false, false_or, not_true_eq_false, not_false_eq_true, and_self, or_self, iff_self]; done) | (simp [h91, h96, h101, h106]; done) | grind | (simp_all; done)), by kernel_rfl, hp88⟩
            · refine OPS.batch 0 {} [] [0, 1, 6, 7, 14, 15, 45] [.slice a1 n1 c1, .slice a2 n2 c2, .pointer (some ⟨g84, 0, none⟩), .pointer (some ⟨g81, 0, none⟩), .int .i64 ((n1 : Nat) : Int), .int .i64 (k : Int), .bool (decide (¬ ((cl1[k]!.B) = (cl2[k]!.B))))] .nil (by kernel_rfl) (fun b102 => ?_)
              refine OPS.re [.slice a1 n1 c1, .slice a2 n2 c2, .pointer (some ⟨g84, 0, none⟩), .pointer (some ⟨g81, 0, none⟩), .int .i64 ((n1 : Nat) : Int), .int .i64 (k : Int), .bool true] (by rw [show (decide (¬ ((cl1[k]!.B) = (cl2[k]!.B)))) = true from Bp.dec.tt h101]) ?_
              refine OPS.batch 22 { wraps := [51, 59, 67] } [] [0, 1, 14, 15, 67] [.slice a1 n1 c1, .slice a2 n2 c2, .int .i64 ((n1 : Nat) : Int), .int .i64 (k : Int), .bool true] .nil (by kernel_rfl) (fun b103 => ?_)
              refine OPS.nil ?_
              refine thn_n ?_
              exact ⟨true, trivial, Bp.of Bp.t (by first | (simp only [h91, h96, h101, iff_false, false_iff, iff_true, true_iff, Classical.not_not, and_true, true_and, and_false, false_and, or_true, true_or, or_false, false_or, not_true_eq_false, not_false_eq_true, and_self, or_self, iff_self]; done) | (simp [h91, h96, h101]; done) | grind | (simp_all; done)), by kernel_rfl, hp88⟩
          · refine OPS.batch 0 {} [] [0, 1, 6, 7, 14, 15, 38] [.slice a1 n1 c1, .slice a2 n2 c2, .pointer (some ⟨g84, 0, none⟩), .pointer (some ⟨g81, 0, none⟩), .int .i64 ((n1 : Nat) : Int), .int .i64 (k : Int), .bool (decide (¬ ((cl1[k]!.A) = (cl2[k]!.A))))] .nil (by kernel_rfl) (fun b97 => ?_)
            refine OPS.re [.slice a1 n1 c1, .slice a2 n2 c2, .pointer (some ⟨g84, 0, none⟩), .pointer (some ⟨g81, 0, none⟩), .int .i64 ((n1 : Nat) : Int), .int .i64 (k : Int), .bool true] (by rw [show (decide (¬ ((cl1[k]!.A) = (cl2[k]!.A)))) = true from Bp.dec.tt h96]) ?_
            refine OPS.batch 29 { wraps := [44, 51, 59, 67] } [] [0, 1, 14, 15, 67] [.slice a1 n1 c1, .slice a2 n2 c2, .int .i64 ((n1 : Nat) : Int), .int .i64 (k : Int), .bool true] .nil (by kernel_rfl) (fun b98 => ?_)
            refine OPS.nil ?_
            refine thn_n ?_
            exact ⟨true, trivial, Bp.of Bp.t (by first | (simp only [h91, h96, iff_false, false_iff, iff_true, true_iff, Classical.not_not, and_true, true_and, and_false, false_and, or_true, true_or, or_false, false_or, not_true_eq_false, not_false_eq_true, and_self, or_self, iff_self]; done) | (simp [h91, h96]; done) | grind | (simp_all; done)), by kernel_rfl, hp88⟩
        · refine OPS.batch 0 {} [] [0, 1, 6, 7, 14, 15, 31] [.slice a1 n1 c1, .slice a2 n2 c2, .pointer (some ⟨g84, 0, none⟩), .pointer (some ⟨g81, 0, none⟩), .int .i64 ((n1 : Nat) : Int), .int .i64 (k : Int), .bool (decide (¬ ((cl1[k]!.Kind) = (cl2[k]!.Kind))))] .nil (by kernel_rfl) (fun b92 => ?_)
          refine OPS.re [.slice a1 n1 c1, .slice a2 n2 c2, .pointer (some ⟨g84, 0, none⟩), .pointer (some ⟨g81, 0, none⟩), .int .i64 ((n1 : Nat) : Int), .int .i64 (k : Int), .bool true] (by rw [show (decide (¬ ((cl1[k]!.Kind) = (cl2[k]!.Kind)))) = true from Bp.dec.tt h91]) ?_
          refine OPS.batch 36 { wraps := [37, 44, 51, 59, 67] } [] [0, 1, 14, 15, 67] [.slice a1 n1 c1, .slice a2 n2 c2, .int .i64 ((n1 : Nat) : Int), .int .i64 (k : Int), .bool true] .nil (by kernel_rfl) (fun b93 => ?_)
          refine OPS.nil ?_
          refine thn_n ?_
          exact ⟨true, trivial, Bp.of Bp.t (by first | (simp only [h91, iff_false, false_iff, iff_true, true_iff, Classical.not_not, and_true, true_and, and_false, false_and, or_true, true_or, or_false, false_or, not_true_eq_false, not_false_eq_true, and_self, or_self, iff_self]; done) | (simp [h91]; done) | grind | (simp_all; done)), by kernel_rfl, hp88⟩
      rintro e125 w126 ⟨x123, hd128, hb124, hE129, hp127⟩
      obtain ⟨b130, rfl⟩ := toMk hE129
      clear hE129
      clear hd128
      refine WP.test (p := ((¬ ((cl1[k]!.Kind) = (cl2[k]!.Kind)))) ∨ (((cl1[k]!.Kind) = (cl2[k]!.Kind)) ∧ (¬ ((cl1[k]!.A) = (cl2[k]!.A)))) ∨ (((cl1[k]!.Kind) = (cl2[k]!.Kind)) ∧ ((cl1[k]!.A) = (cl2[k]!.A)) ∧ (¬ ((cl1[k]!.B) = (cl2[k]!.B)))) ∨ (((cl1[k]!.Kind) = (cl2[k]!.Kind)) ∧ ((cl1[k]!.A) = (cl2[k]!.A)) ∧ ((cl1[k]!.B) = (cl2[k]!.B)) ∧ (¬ ((cl1[k]!.Key) = (cl2[k]!.Key))))) rfl hb124 (fun h131 => ?_) (fun h131 => ?_)
      · refine WP.seq ?_
        refine WP.pure {} [] [4] [.bool false] .nil (by kernel_rfl) (fun b132 => ?_)
        refine thn_n ?_
        refine WP.ret ?_
        refine blk_r ?_
        refine thn_r ?_
        refine thn_r ?_
        refine blk_r ?_
        refine thn_r ?_
        refine bodyQ.of _ rfl [.bool false] ⟨rfl, trivial⟩ ?_
        exfalso
        have h_ := h131
        first | omega | (simp [e1, e2, e3, e4] at h_; done) | (simp_all; done)
      · refine WP.skip ?_
        refine blk_n ?_
        refine thn_n ?_
        refine WP.pure {} [] [0, 1, 14, 15] [.slice a1 n1 c1, .slice a2 n2 c2, .int .i64 ((n1 : Nat) : Int), .int .i64 ((k : Int) + 1)] (.cons (show Rng .i64 ((k : Int) + 1) from Rng.i64 (by omega)) .nil) (by kernel_rfl) (fun b133 => ?_)
        refine thn_n ?_
        exact ⟨n1 - (k + 1), (by omega), k + 1, rfl, (by omega), by kernel_rfl, (hp127.sub (.cons _ (.cons _ (.slnil))))⟩
    · refine WP.exit ?_
      refine thn_x ?_
      refine thn_x ?_
      refine blk_hit ?_
      refine thn_n ?_
      refine WP.seq ?_
      refine WP.pure {} [] [4] [.bool true] .nil (by kernel_rfl) (fun b134 => ?_)
      refine thn_n ?_
      refine WP.ret ?_
      refine bodyQ.of _ rfl [.bool true] ⟨rfl, trivial⟩ ?_
      exact ⟨rfl, hp8.fr⟩

end Go.Proofs.YthplgcnoaholaajDoor.K
