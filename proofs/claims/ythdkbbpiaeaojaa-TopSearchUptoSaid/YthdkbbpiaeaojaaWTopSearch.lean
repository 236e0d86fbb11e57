/- The walks of WTopSearch: what each function computes. -/
import Derived.Test.YthdkbbpiaeaojaaProg
import Derived.Test.YthdkbbpiaeaojaaCoreO
import Derived.Test.YthdkbbpiaeaojaaTopD
import Derived.Test.YthdkbbpiaeaojaaTopE
import Derived.Test.YthdkbbpiaeaojaaOpen
import Derived.Test.YthdkbbpiaeaojaaCoreV
namespace Go.Proofs.Ythdkbbpiaeaojaa.K
open Go Go.Proofs Go.RowKit
set_option linter.unusedVariables false
set_option linter.unusedSimpArgs false
set_option maxRecDepth 20000
set_option maxHeartbeats 4000000

theorem byr_of {w : World} {Bn : Nat} {s : SlH} {l : List Int} (h : SlD w u8c (fun y => Rng .u8 y) Bn s l) : ∀ b ∈ bytesAt w s, 0 ≤ b ∧ b < 256 := by
  intro b hb
  rw [bytesAt_of (ns := l) h.rd h.len.symm] at hb
  have := h.all b hb
  obtain ⟨h1, h2⟩ := this
  simp [IntKind.min, IntKind.max, IntKind.signed, IntKind.bits] at h1 h2
  omega
theorem top_ownCalls_at {w0 w : World} (hf : Fram Non w0 w) {l : List GCall} {n : Nat} (hn : l.length = n) {a : Option Addr} {cp : Nat} (hs : SlR w0 a n (l.flatMap GCall.cells)) (hv : ∀ x ∈ l, VB w0 x.Value) (hvn : ∀ x ∈ l, x.Value.n ≤ 1048576) (hll : l.length ≤ 1048576) :
    Calls Try.prog 52 #[.slice a n cp] w (fun x w' => ∃ (ao : Option Addr) (no co : Nat) (cl : List GCall) (F : Nat → Prop) (vs : List ByteArray), x = .returned (.slice ao no co) ∧ cpO w0 l cl vs l.length ∧ Hp w Non [Res.own 41 11 (.slice ao no co) no (List.flatMap GCall.cells cl), Res.vl F cl vs] w') := by
  refine (top_ownCalls l n hn a cp w (hs.fram hf) (fun x hx => ((hv x hx).step hf).1) hvn hll).mono ?_
  rintro _ w' ⟨ao, no, co, cl, F, vs, rfl, h1, h2⟩
  refine ⟨ao, no, co, cl, F, vs, rfl, ⟨h1.1, h1.2.1, fun i hi => ⟨(h1.2.2 i hi).1, ?_⟩⟩, h2⟩
  rw [(h1.2.2 i hi).2]
  exact vals_at hf hv i hi
theorem top_explained_at {w0 w : World} (hf : Fram Non w0 w) {l : List GCall} {n : Nat} (hn : l.length = n) {a : Option Addr} {cp : Nat} (hs : SlR w0 a n (l.flatMap GCall.cells)) (hv : ∀ x ∈ l, VB w0 x.Value) (hr : ByR w0 l) (hvn : ∀ x ∈ l, x.Value.n ≤ 1048576) (hll : l.length ≤ 1048576) :
    Calls Try.prog 54 #[.slice a n cp] w (fun x w' => ∃ f_, x = .returned (.bool f_) ∧ Bp f_ (∃ p, PathA (valAt w0) l [] p) ∧ Fram Non w w') := by
  refine (top_explained l n hn a cp w (hs.fram hf) (fun x hx => ((hv x hx).step hf).1) (byr_at hf hv hr) hvn hll).mono ?_
  rintro _ w' ⟨f, rfl, h1, h2⟩
  have s : SimC (valAt w) l (valAt w0) l := ⟨rfl, fun _ _ => rfl, fun _ _ => rfl, fun _ _ => rfl, fun _ _ => rfl, fun _ _ => rfl, fun i j hi hj => by rw [vals_at hf hv i hi, vals_at hf hv j hj]⟩
  exact ⟨f, rfl, Bp.of h1 ⟨fun ⟨p, hp⟩ => ⟨p, (s.path (by simp)).1 hp⟩, fun ⟨p, hp⟩ => ⟨p, (s.path (by simp)).2 hp⟩⟩, h2⟩

theorem TopSearch {okp : GCall → Prop} (BN : Nat) (hBN : BN ≤ 1048576) (w : World) (s1 : SlH) (l1 : List GCall) (o1 : SlD w (α := GCall) GCall.cells okp BN s1 l1) (hv : ∀ x ∈ l1, VB w x.Value) (hr : ByR w l1) (hvn : ∀ x ∈ l1, x.Value.n ≤ 1048576) :
    Calls Try.prog 12 #[.slice s1.a s1.n s1.c] w (fun x w' => x = .returned (.bool true) ∧ Fram Non w w') := by
  have hn1 := o1.len
  have hc1_ := o1.cap
  have hd1 := o1.bnd
  refine calls_of Try.func12 rfl 115 rfl (by simp) ?_
  have hp0 := Hp.init w
  have he0 : List.map (env0 [.slice s1.a s1.n s1.c]) [0] = [.slice s1.a s1.n s1.c] := by kernel_rfl
  obtain ⟨b0, he0⟩ := toMk he0
  rw [he0]
  clear he0
  refine WP.seq ?_
  refine WP.pure {} [] [0] [.slice s1.a s1.n s1.c] .nil (by kernel_rfl) (fun b1 => ?_)
  refine thn_n ?_
  refine WP.seq ?_
  refine WP.region _ rfl (by kernel_rfl) ?_
  refine OPS.cons (opStep.buildSlice (E := 5) hp0 [.int .u8 1] (by kernel_rfl) (fun g4 w2 hp3 => ?_))
  refine OPS.batch 1 {} [] [0, 14] [.slice s1.a s1.n s1.c, .agg #[.int .i64 0, .int .i64 0, .bool true, .string ByteArray.empty, .slice (some ⟨g4, 0, none⟩) 1 1, .int .i64 0, .int .i64 0, .int .i64 1, .bool false, .int .i64 0, .int .i64 0]] .nil (by kernel_rfl) (fun b5 => ?_)
  refine OPS.cons (opStep.buildSlice (E := 5) hp3 [.int .u8 1] (by kernel_rfl) (fun g8 w6 hp7 => ?_))
  refine OPS.batch 1 {} [] [0, 14, 16] [.slice s1.a s1.n s1.c, .agg #[.int .i64 0, .int .i64 0, .bool true, .string ByteArray.empty, .slice (some ⟨g4, 0, none⟩) 1 1, .int .i64 0, .int .i64 0, .int .i64 1, .bool false, .int .i64 0, .int .i64 0], .agg #[.int .i64 0, .int .i64 0, .bool false, .string ByteArray.empty, .slice (some ⟨g8, 0, none⟩) 1 1, .int .i64 0, .int .i64 2, .int .i64 3, .bool false, .int .i64 0, .int .i64 0]] .nil (by kernel_rfl) (fun b9 => ?_)
  refine OPS.cons (opStep.buildSlice (E := 41) hp7 [.int .i64 0, .int .i64 0, .bool true, .string ByteArray.empty, .slice (some ⟨g4, 0, none⟩) 1 1, .int .i64 0, .int .i64 0, .int .i64 1, .bool false, .int .i64 0, .int .i64 0, .int .i64 0, .int .i64 0, .bool false, .string ByteArray.empty, .slice (some ⟨g8, 0, none⟩) 1 1, .int .i64 0, .int .i64 2, .int .i64 3, .bool false, .int .i64 0, .int .i64 0] (by kernel_rfl) (fun g12 w10 hp11 => ?_))
  refine OPS.batch 1 {} [] [0, 3] [.slice s1.a s1.n s1.c, .slice (some ⟨g12, 0, none⟩) 2 2] .nil (by kernel_rfl) (fun b13 => ?_)
  refine OPS.nil ?_
  refine thn_n ?_
  refine WP.seq ?_
  refine WP.seq ?_
  refine WP.region _ rfl (by kernel_rfl) ?_
  refine OPS.batch 1 {} [] [0, 19] [.slice s1.a s1.n s1.c, .slice (some ⟨g12, 0, none⟩) 2 2] .nil (by kernel_rfl) (fun b14 => ?_)
  have hvhz21 : ∀ x ∈ ([(⟨0, 0, true, ByteArray.empty, ⟨some ⟨g4, 0, none⟩, 1, 1⟩, 0, 0, 1, false, (⟨0, 0⟩ : GTag)⟩ : GCall), (⟨0, 0, false, ByteArray.empty, ⟨some ⟨g8, 0, none⟩, 1, 1⟩, 0, 2, 3, false, (⟨0, 0⟩ : GTag)⟩ : GCall)] : List GCall), VB w10 x.Value := by
    intro x hx
    simp only [List.mem_cons, List.not_mem_nil, or_false] at hx
    rcases hx with rfl | rfl
    · exact (VB.rowb (b := g4) (c := 1) (n := 1) (ns := [1]) hp11.get2 rfl rfl).1
    · exact (VB.rowb (b := g8) (c := 1) (n := 1) (ns := [1]) hp11.get1 rfl rfl).1
  have hehz21 : ([(⟨0, 0, true, ByteArray.empty, ⟨some ⟨g4, 0, none⟩, 1, 1⟩, 0, 0, 1, false, (⟨0, 0⟩ : GTag)⟩ : GCall), (⟨0, 0, false, ByteArray.empty, ⟨some ⟨g8, 0, none⟩, 1, 1⟩, 0, 2, 3, false, (⟨0, 0⟩ : GTag)⟩ : GCall)] : List GCall).map (fun c => valAt w10 c.Value) = ([⟨0, 0, true, ⟨#[]⟩, ⟨none, 0, 0⟩, 0, 0, 1, false, ⟨0, 0⟩⟩, ⟨0, 0, false, ⟨#[]⟩, ⟨none, 0, 0⟩, 0, 2, 3, false, ⟨0, 0⟩⟩] : List GCall).map (fun c => tabV [⟨#[1]⟩] c.Value) := by
    have hv0_ : valAt w10 (⟨some ⟨g4, 0, none⟩, 1, 1⟩ : SlH) = ⟨#[1]⟩ := (VB.rowb (b := g4) (c := 1) (n := 1) (ns := [1]) hp11.get2 rfl rfl).2.trans (by decide)
    have hv1_ : valAt w10 (⟨some ⟨g8, 0, none⟩, 1, 1⟩ : SlH) = ⟨#[1]⟩ := (VB.rowb (b := g8) (c := 1) (n := 1) (ns := [1]) hp11.get1 rfl rfl).2.trans (by decide)
    simp only [List.map_cons, List.map_nil, hv0_, hv1_]
    rfl
  refine OPS.cons (opStep.call (some 20) [.slice (some ⟨g12, 0, none⟩) 2 2] (by kernel_rfl) (lin_OneN [(⟨0, 0, true, ByteArray.empty, ⟨some ⟨g4, 0, none⟩, 1, 1⟩, 0, 0, 1, false, (⟨0, 0⟩ : GTag)⟩ : GCall), (⟨0, 0, false, ByteArray.empty, ⟨some ⟨g8, 0, none⟩, 1, 1⟩, 0, 2, 3, false, (⟨0, 0⟩ : GTag)⟩ : GCall)] 2 rfl (some ⟨g12, 0, none⟩) 2 _ (show SlR w10 (some ⟨g12, 0, none⟩) 2 (List.flatMap GCall.cells [(⟨0, 0, true, ByteArray.empty, ⟨some ⟨g4, 0, none⟩, 1, 1⟩, 0, 0, 1, false, (⟨0, 0⟩ : GTag)⟩ : GCall), (⟨0, 0, false, ByteArray.empty, ⟨some ⟨g8, 0, none⟩, 1, 1⟩, 0, 2, 3, false, (⟨0, 0⟩ : GTag)⟩ : GCall)]) from SlR.row hp11.get0 rfl) hvhz21 (by simp)) ?_)
  rintro _ w17 ⟨xs22, ok23, e24, ao25, no26, co27, rfl, hx19, hn20⟩
  have hz21 := oneF_of hx19 (l' := [⟨0, 0, true, ⟨#[]⟩, ⟨none, 0, 0⟩, 0, 0, 1, false, ⟨0, 0⟩⟩, ⟨0, 0, false, ⟨#[]⟩, ⟨none, 0, 0⟩, 0, 2, 3, false, ⟨0, 0⟩⟩]) (by rfl) hehz21
  rw [show oneF (tabV [⟨#[1]⟩]) [⟨0, 0, true, ⟨#[]⟩, ⟨none, 0, 0⟩, 0, 0, 1, false, ⟨0, 0⟩⟩, ⟨0, 0, false, ⟨#[]⟩, ⟨none, 0, 0⟩, 0, 2, 3, false, ⟨0, 0⟩⟩] = ([0, 1], true, 0) from by decide +kernel] at hz21
  simp only [Prod.mk.injEq] at hz21
  obtain ⟨rfl, rfl, rfl⟩ := hz21
  refine ⟨_, rfl, ?_⟩
  have hp18 := hp11.made hn20
  have hno28 := own_flat (sz := 1) (fun _ => rfl) (by decide) hp18.get0
  obtain rfl : no26 = 2 := by simpa using hno28.symm
  refine OPS.batch 7 {} [] [0, 4, 5, 6] [.slice s1.a s1.n s1.c, .slice ao25 2 co27, .bool true, .int .i64 0] .nil (by kernel_rfl) (fun b29 => ?_)
  refine OPS.nil ?_
  refine thn_n ?_
  refine WP.seq ?_
  have := own_flat (sz := 1) (fun _ => rfl) (by decide) hp18.get0
  have hy31 : (([0, 1] : List Nat))[0]? = some ([0, 1] : List Nat)[0]! := get_bang (by first | (omega) | (simp only [List.length_append, List.length_cons, List.length_nil]; omega) | (simp only [List.length_take, List.length_append, List.length_cons, List.length_nil]; omega))
  refine WP.pure { wraps := [29, 34, 40] } [.int .i64 ((([0, 1] : List Nat)[0]! : Nat) : Int)] [0, 40] [.slice s1.a s1.n s1.c, .bool (decide (¬ (((([0, 1] : List Nat)[0]! : Nat) : Int) = 0)))] (.cons (show InB (0) (2) from ⟨by omega, by omega⟩) (.cons ((SlR.own (hp18.get0)).some (by omega)) (.cons (Ld.add0 (Ld.el1 (P := Try.prog) (t := 3) (SlR.own (hp18.get0)).rd 1 (fun _ => rfl) hy31 (o := 0) (v := .int .i64 ((([0, 1] : List Nat)[0]! : Nat) : Int)) (by kernel_rfl))) .nil))) (by kernel_rfl) (fun b32 => ?_)
  refine thn_n ?_
  refine WP.test (p := ¬ (((([0, 1] : List Nat)[0]! : Nat) : Int) = 0)) rfl Bp.dec (fun h33 => ?_) (fun h33 => ?_)
  · refine WP.seq ?_
    refine WP.pure {} [] [2] [.bool false] .nil (by kernel_rfl) (fun b34 => ?_)
    refine thn_n ?_
    refine WP.ret ?_
    refine thn_r ?_
    refine bodyQ.of _ rfl [.bool false] ⟨rfl, trivial⟩ ?_
    exfalso
    exact h33 rfl
  · replace h33 := Classical.not_not.1 h33
    refine WP.skip ?_
    refine thn_n ?_
    refine WP.seq ?_
    refine WP.region _ rfl (by kernel_rfl) ?_
    refine OPS.batch 1 {} [] [0, 42] [.slice s1.a s1.n s1.c, .slice s1.a s1.n s1.c] .nil (by kernel_rfl) (fun b35 => ?_)
    refine OPS.cons (opStep.call (some 43) [.slice s1.a s1.n s1.c] (by kernel_rfl) (top_ownCalls_at hp18.fr hn1.symm o1.rd hv hvn (by omega)) ?_)
    rintro _ w44 ⟨ao38, no39, co40, cl41, F42, vs43, rfl, hcp, hn46⟩
    refine ⟨_, rfl, ?_⟩
    have hp45 := hp18.madeL hn46
    simp only [List.cons_append, List.nil_append] at hp45
    have hlo_ := own_flat (sz := 11) (fun _ => rfl) (by decide) hp45.get0
    have hcl_ := hcp.1
    refine OPS.cons (opStep.call (some 44) [.slice ao38 no39 co40] (by kernel_rfl) (lin_OneN cl41 no39 hlo_ ao38 co40 _ (SlR.own hp45.get0) (vl_vb hp45.get1) (by omega)) ?_)
    rintro _ w49 ⟨xs54, ok55, e56, ao57, no58, co59, rfl, hx51, hn52⟩
    have hx_ := (cpO_sim hcp rfl (fun i hi => vl_val hp45.get1 hi)).symm.one hx51
    obtain ⟨hc1, hc2, hc3⟩ := one_cases hx_
    refine ⟨_, rfl, ?_⟩
    have hp50 := hp45.made hn52
    have hxn_ := own_flat (sz := 1) (fun _ => rfl) (by decide) hp50.get0
    refine OPS.batch 7 {} [] [0, 7, 8, 9] [.slice s1.a s1.n s1.c, .slice ao57 no58 co59, .bool ok55, .int .i64 e56] .nil (by kernel_rfl) (fun b60 => ?_)
    refine OPS.nil ?_
    refine thn_n ?_
    refine WP.seq ?_
    refine WP.pure {} [] [0, 7, 8, 9, 10] [.slice s1.a s1.n s1.c, .slice ao57 no58 co59, .bool ok55, .int .i64 e56, .int .i64 0] .nil (by kernel_rfl) (fun b61 => ?_)
    refine thn_n ?_
    refine WP.seq ?_
    refine WP.seq ?_
    refine WP.pure {} [] [0, 7, 8, 9, 10, 48, 49, 50] [.slice s1.a s1.n s1.c, .slice ao57 no58 co59, .bool ok55, .int .i64 e56, .int .i64 0, .slice s1.a s1.n s1.c, .int .i64 ((s1.n : Nat) : Int), .int .i64 0] .nil (by kernel_rfl) (fun b62 => ?_)
    refine thn_n ?_
    refine WP.block ?_
    refine WP.loop (fun mz_ e63 w64 => ∃ (k : Nat) (cn : Int), mz_ = l1.length - k ∧ (k ≤ l1.length ∧ cn = (cntN l1 k : Int) ∧ ∀ j, j < k → okArg l1[j]!) ∧ List.map e63 [0, 7, 8, 9, 10, 48, 49, 50] = [.slice s1.a s1.n s1.c, .slice ao57 no58 co59, .bool ok55, .int .i64 e56, .int .i64 cn, .slice s1.a s1.n s1.c, .int .i64 ((s1.n : Nat) : Int), .int .i64 (k : Int)] ∧ Hp w Non [Res.own 3 1 (.slice ao57 no58 co59) no58 (List.flatMap (fun (y : Nat) => [Go.Value.int .i64 (y : Int)]) xs54), Res.own 41 11 (.slice ao38 no39 co40) no39 (List.flatMap GCall.cells cl41), Res.vl F42 cl41 vs43, Res.own 3 1 (.slice ao25 2 co27) 2 (List.flatMap (fun (y : Nat) => [Go.Value.int .i64 (y : Int)]) ([0, 1] : List Nat)), Res.row g12 [.int .i64 0, .int .i64 0, .bool true, .string ByteArray.empty, .slice (some ⟨g4, 0, none⟩) 1 1, .int .i64 0, .int .i64 0, .int .i64 1, .bool false, .int .i64 0, .int .i64 0, .int .i64 0, .int .i64 0, .bool false, .string ByteArray.empty, .slice (some ⟨g8, 0, none⟩) 1 1, .int .i64 0, .int .i64 2, .int .i64 3, .bool false, .int .i64 0, .int .i64 0] 41, Res.row g8 [.int .u8 1] 5, Res.row g4 [.int .u8 1] 5] w64) (l1.length - (0)) ⟨0, 0, rfl, ⟨by omega, rfl, fun j hj => by omega⟩, by kernel_rfl, hp50⟩ ?_
    rintro _ e63 w64 ⟨k, cn, rfl, hI66, hE67, hp65⟩
    obtain ⟨b68, rfl⟩ := toMk hE67
    clear hE67
    obtain ⟨k1, k2, k3⟩ := hI66
    have hck_ := cntN_le l1 k
    refine WP.seq ?_
    refine WP.pure {} [] [0, 7, 8, 9, 10, 48, 49, 50, 51] [.slice s1.a s1.n s1.c, .slice ao57 no58 co59, .bool ok55, .int .i64 e56, .int .i64 cn, .slice s1.a s1.n s1.c, .int .i64 ((s1.n : Nat) : Int), .int .i64 (k : Int), .bool (decide ((k : Int) < ((s1.n : Nat) : Int)))] .nil (by kernel_rfl) (fun b69 => ?_)
    refine thn_n ?_
    refine WP.seq ?_
    refine WP.test (p := (k : Int) < ((s1.n : Nat) : Int)) rfl Bp.dec (fun h70 => ?_) (fun h70 => ?_)
    · refine WP.skip ?_
      refine thn_n ?_
      refine WP.seq ?_
      refine WP.block ?_
      refine WP.seq ?_
      refine WP.region _ rfl (by kernel_rfl) ?_
      have hy74 : (l1)[k]? = some l1[k]! := get_bang (by first | (omega) | (simp only [List.length_append, List.length_cons, List.length_nil]; omega) | (simp only [List.length_take, List.length_append, List.length_cons, List.length_nil]; omega))
      refine OPS.batch 2 {} [GCall.val (l1[k]!)] [0, 7, 8, 9, 10, 48, 49, 50, 53] [.slice s1.a s1.n s1.c, .slice ao57 no58 co59, .bool ok55, .int .i64 e56, .int .i64 cn, .slice s1.a s1.n s1.c, .int .i64 ((s1.n : Nat) : Int), .int .i64 (k : Int), GCall.val (l1[k]!)] (.cons (show InB ((k : Int)) (s1.n) from ⟨by omega, by omega⟩) (.cons ((o1.rd.at hp65).some (by omega)) (.cons (Ld.add0 (Ld.elN (P := Try.prog) (t := 41) (o1.rd.at hp65).rd 11 (fun _ => rfl) hy74 (o := 0) (cs := [.int .i64 (l1[k]!.Client), .int .i64 (l1[k]!.Op), .bool (l1[k]!.Put), .string (l1[k]!.Key), .slice (l1[k]!.Value.a) (l1[k]!.Value.n) (l1[k]!.Value.c), .int .i64 (l1[k]!.Status), .int .i64 (l1[k]!.From), .int .i64 (l1[k]!.To), .bool (l1[k]!.Open), .int .i64 (l1[k]!.Tag.Count), .int .i64 (l1[k]!.Tag.Client)]) (by kernel_rfl))) .nil))) (by kernel_rfl) (fun b75 => ?_)
      refine OPS.cons (opStep.alloc hp65 [.int .i64 0, .int .i64 0, .bool false, .string ByteArray.empty, .slice none 0 0, .int .i64 0, .int .i64 0, .int .i64 0, .bool false, .int .i64 0, .int .i64 0] (by kernel_rfl) (fun g78 w76 hp77 => ?_))
      refine OPS.cons (opStep.store0 hp77 rfl [.int .i64 (l1[k]!.Client), .int .i64 (l1[k]!.Op), .bool (l1[k]!.Put), .string (l1[k]!.Key), .slice (l1[k]!.Value.a) (l1[k]!.Value.n) (l1[k]!.Value.c), .int .i64 (l1[k]!.Status), .int .i64 (l1[k]!.From), .int .i64 (l1[k]!.To), .bool (l1[k]!.Open), .int .i64 (l1[k]!.Tag.Count), .int .i64 (l1[k]!.Tag.Client)] [.int .i64 (l1[k]!.Client), .int .i64 (l1[k]!.Op), .bool (l1[k]!.Put), .string (l1[k]!.Key), .slice (l1[k]!.Value.a) (l1[k]!.Value.n) (l1[k]!.Value.c), .int .i64 (l1[k]!.Status), .int .i64 (l1[k]!.From), .int .i64 (l1[k]!.To), .bool (l1[k]!.Open), .int .i64 (l1[k]!.Tag.Count), .int .i64 (l1[k]!.Tag.Client)] (by kernel_rfl) (fun w79 hp80 => ?_))
      refine OPS.nil ?_
      refine thn_n ?_
      refine WP.seq ?_
      refine WP.cut (fun e95 w96 => ∃ (x93 : Bool), (True) ∧ Bp x93 ((((l1[k]!.From) < 0)) ∨ ((¬ ((l1[k]!.From) < 0)) ∧ (¬ ((l1[k]!.To) = (-1))) ∧ ((l1[k]!.To) ≤ (l1[k]!.From)))) ∧ List.map e95 [0, 7, 8, 9, 10, 12, 48, 49, 50, 68] = [.slice s1.a s1.n s1.c, .slice ao57 no58 co59, .bool ok55, .int .i64 e56, .int .i64 cn, .pointer (some ⟨g78, 0, none⟩), .slice s1.a s1.n s1.c, .int .i64 ((s1.n : Nat) : Int), .int .i64 (k : Int), .bool x93] ∧ Hp w Non [Res.row g78 [.int .i64 (l1[k]!.Client), .int .i64 (l1[k]!.Op), .bool (l1[k]!.Put), .string (l1[k]!.Key), .slice (l1[k]!.Value.a) (l1[k]!.Value.n) (l1[k]!.Value.c), .int .i64 (l1[k]!.Status), .int .i64 (l1[k]!.From), .int .i64 (l1[k]!.To), .bool (l1[k]!.Open), .int .i64 (l1[k]!.Tag.Count), .int .i64 (l1[k]!.Tag.Client)] 41, Res.own 3 1 (.slice ao57 no58 co59) no58 (List.flatMap (fun (y : Nat) => [Go.Value.int .i64 (y : Int)]) xs54), Res.own 41 11 (.slice ao38 no39 co40) no39 (List.flatMap GCall.cells cl41), Res.vl F42 cl41 vs43, Res.own 3 1 (.slice ao25 2 co27) 2 (List.flatMap (fun (y : Nat) => [Go.Value.int .i64 (y : Int)]) ([0, 1] : List Nat)), Res.row g12 [.int .i64 0, .int .i64 0, .bool true, .string ByteArray.empty, .slice (some ⟨g4, 0, none⟩) 1 1, .int .i64 0, .int .i64 0, .int .i64 1, .bool false, .int .i64 0, .int .i64 0, .int .i64 0, .int .i64 0, .bool false, .string ByteArray.empty, .slice (some ⟨g8, 0, none⟩) 1 1, .int .i64 0, .int .i64 2, .int .i64 3, .bool false, .int .i64 0, .int .i64 0] 41, Res.row g8 [.int .u8 1] 5, Res.row g4 [.int .u8 1] 5] w96) ?_ ?_
      · refine WP.region _ rfl (by kernel_rfl) ?_
        refine OPS.batch 4 {} [.int .i64 (l1[k]!.From)] [0, 7, 8, 9, 10, 12, 48, 49, 50, 57] [.slice s1.a s1.n s1.c, .slice ao57 no58 co59, .bool ok55, .int .i64 e56, .int .i64 cn, .pointer (some ⟨g78, 0, none⟩), .slice s1.a s1.n s1.c, .int .i64 ((s1.n : Nat) : Int), .int .i64 (k : Int), .bool (decide ((l1[k]!.From) < 0))] (.cons (Ld.row1 (P := Try.prog) (t := 3) (o := 6) (v := .int .i64 (l1[k]!.From)) hp80.get0 (by kernel_rfl)) .nil) (by kernel_rfl) (fun b82 => ?_)
        by_cases h83 : (l1[k]!.From) < 0
        · refine OPS.batch 0 {} [] [0, 7, 8, 9, 10, 12, 48, 49, 50, 57] [.slice s1.a s1.n s1.c, .slice ao57 no58 co59, .bool ok55, .int .i64 e56, .int .i64 cn, .pointer (some ⟨g78, 0, none⟩), .slice s1.a s1.n s1.c, .int .i64 ((s1.n : Nat) : Int), .int .i64 (k : Int), .bool (decide ((l1[k]!.From) < 0))] .nil (by kernel_rfl) (fun b84 => ?_)
          refine OPS.re [.slice s1.a s1.n s1.c, .slice ao57 no58 co59, .bool ok55, .int .i64 e56, .int .i64 cn, .pointer (some ⟨g78, 0, none⟩), .slice s1.a s1.n s1.c, .int .i64 ((s1.n : Nat) : Int), .int .i64 (k : Int), .bool true] (by rw [show (decide ((l1[k]!.From) < 0)) = true from Bp.dec.tt h83]) ?_
          refine OPS.batch 11 { wraps := [68] } [] [0, 7, 8, 9, 10, 12, 48, 49, 50, 68] [.slice s1.a s1.n s1.c, .slice ao57 no58 co59, .bool ok55, .int .i64 e56, .int .i64 cn, .pointer (some ⟨g78, 0, none⟩), .slice s1.a s1.n s1.c, .int .i64 ((s1.n : Nat) : Int), .int .i64 (k : Int), .bool true] .nil (by kernel_rfl) (fun b85 => ?_)
          refine OPS.nil ?_
          refine thn_n ?_
          exact ⟨true, trivial, Bp.of Bp.t (by first | (simp only [h83, iff_false, false_iff, iff_true, true_iff, Classical.not_not, and_true, true_and, and_false, false_and, or_true, true_or, or_false, false_or, not_true_eq_false, not_false_eq_true, and_self, or_self, iff_self]; done) | (simp [h83]; done) | simp_all), by kernel_rfl, hp80⟩
        · refine OPS.batch 0 {} [] [0, 7, 8, 9, 10, 12, 48, 49, 50, 57] [.slice s1.a s1.n s1.c, .slice ao57 no58 co59, .bool ok55, .int .i64 e56, .int .i64 cn, .pointer (some ⟨g78, 0, none⟩), .slice s1.a s1.n s1.c, .int .i64 ((s1.n : Nat) : Int), .int .i64 (k : Int), .bool (decide ((l1[k]!.From) < 0))] .nil (by kernel_rfl) (fun b86 => ?_)
          refine OPS.re [.slice s1.a s1.n s1.c, .slice ao57 no58 co59, .bool ok55, .int .i64 e56, .int .i64 cn, .pointer (some ⟨g78, 0, none⟩), .slice s1.a s1.n s1.c, .int .i64 ((s1.n : Nat) : Int), .int .i64 (k : Int), .bool false] (by rw [show (decide ((l1[k]!.From) < 0)) = false from Bp.dec.ff h83]) ?_
          refine OPS.batch 4 {} [.int .i64 (l1[k]!.To)] [0, 7, 8, 9, 10, 12, 48, 49, 50, 57, 61] [.slice s1.a s1.n s1.c, .slice ao57 no58 co59, .bool ok55, .int .i64 e56, .int .i64 cn, .pointer (some ⟨g78, 0, none⟩), .slice s1.a s1.n s1.c, .int .i64 ((s1.n : Nat) : Int), .int .i64 (k : Int), .bool false, .bool (decide (¬ ((l1[k]!.To) = (-1))))] (.cons (Ld.row1 (P := Try.prog) (t := 3) (o := 7) (v := .int .i64 (l1[k]!.To)) hp80.get0 (by kernel_rfl)) .nil) (by kernel_rfl) (fun b87 => ?_)
          by_cases h88 : (l1[k]!.To) = (-1)
          · refine OPS.batch 0 {} [] [0, 7, 8, 9, 10, 12, 48, 49, 50, 57, 61] [.slice s1.a s1.n s1.c, .slice ao57 no58 co59, .bool ok55, .int .i64 e56, .int .i64 cn, .pointer (some ⟨g78, 0, none⟩), .slice s1.a s1.n s1.c, .int .i64 ((s1.n : Nat) : Int), .int .i64 (k : Int), .bool false, .bool (decide (¬ ((l1[k]!.To) = (-1))))] .nil (by kernel_rfl) (fun b91 => ?_)
            refine OPS.re [.slice s1.a s1.n s1.c, .slice ao57 no58 co59, .bool ok55, .int .i64 e56, .int .i64 cn, .pointer (some ⟨g78, 0, none⟩), .slice s1.a s1.n s1.c, .int .i64 ((s1.n : Nat) : Int), .int .i64 (k : Int), .bool false, .bool false] (by rw [show (decide (¬ ((l1[k]!.To) = (-1)))) = false from Bp.dec.ff (fun k => k h88)]) ?_
            refine OPS.batch 7 { wraps := [67, 68] } [] [0, 7, 8, 9, 10, 12, 48, 49, 50, 68] [.slice s1.a s1.n s1.c, .slice ao57 no58 co59, .bool ok55, .int .i64 e56, .int .i64 cn, .pointer (some ⟨g78, 0, none⟩), .slice s1.a s1.n s1.c, .int .i64 ((s1.n : Nat) : Int), .int .i64 (k : Int), .bool false] .nil (by kernel_rfl) (fun b92 => ?_)
            refine OPS.nil ?_
            refine thn_n ?_
            exact ⟨false, trivial, Bp.of Bp.f (by first | (simp only [h83, h88, iff_false, false_iff, iff_true, true_iff, Classical.not_not, and_true, true_and, and_false, false_and, or_true, true_or, or_false, false_or, not_true_eq_false, not_false_eq_true, and_self, or_self, iff_self]; done) | (simp [h83, h88]; done) | simp_all), by kernel_rfl, hp80⟩
          · refine OPS.batch 0 {} [] [0, 7, 8, 9, 10, 12, 48, 49, 50, 57, 61] [.slice s1.a s1.n s1.c, .slice ao57 no58 co59, .bool ok55, .int .i64 e56, .int .i64 cn, .pointer (some ⟨g78, 0, none⟩), .slice s1.a s1.n s1.c, .int .i64 ((s1.n : Nat) : Int), .int .i64 (k : Int), .bool false, .bool (decide (¬ ((l1[k]!.To) = (-1))))] .nil (by kernel_rfl) (fun b89 => ?_)
            refine OPS.re [.slice s1.a s1.n s1.c, .slice ao57 no58 co59, .bool ok55, .int .i64 e56, .int .i64 cn, .pointer (some ⟨g78, 0, none⟩), .slice s1.a s1.n s1.c, .int .i64 ((s1.n : Nat) : Int), .int .i64 (k : Int), .bool false, .bool true] (by rw [show (decide (¬ ((l1[k]!.To) = (-1)))) = true from Bp.dec.tt h88]) ?_
            refine OPS.batch 7 { wraps := [67, 68] } [.int .i64 (l1[k]!.To), .int .i64 (l1[k]!.From)] [0, 7, 8, 9, 10, 12, 48, 49, 50, 68] [.slice s1.a s1.n s1.c, .slice ao57 no58 co59, .bool ok55, .int .i64 e56, .int .i64 cn, .pointer (some ⟨g78, 0, none⟩), .slice s1.a s1.n s1.c, .int .i64 ((s1.n : Nat) : Int), .int .i64 (k : Int), .bool (decide ((l1[k]!.To) ≤ (l1[k]!.From)))] (.cons (Ld.row1 (P := Try.prog) (t := 3) (o := 7) (v := .int .i64 (l1[k]!.To)) hp80.get0 (by kernel_rfl)) (.cons (Ld.row1 (P := Try.prog) (t := 3) (o := 6) (v := .int .i64 (l1[k]!.From)) hp80.get0 (by kernel_rfl)) .nil)) (by kernel_rfl) (fun b90 => ?_)
            refine OPS.nil ?_
            refine thn_n ?_
            exact ⟨decide ((l1[k]!.To) ≤ (l1[k]!.From)), trivial, Bp.of Bp.dec (by first | (simp only [h83, h88, iff_false, false_iff, iff_true, true_iff, Classical.not_not, and_true, true_and, and_false, false_and, or_true, true_or, or_false, false_or, not_true_eq_false, not_false_eq_true, and_self, or_self, iff_self]; done) | (simp [h83, h88]; done) | simp_all), by kernel_rfl, hp80⟩
      rintro e95 w96 ⟨x93, hd98, hb94, hE99, hp97⟩
      obtain ⟨b100, rfl⟩ := toMk hE99
      clear hE99
      clear hd98
      refine WP.test (p := (((l1[k]!.From) < 0)) ∨ ((¬ ((l1[k]!.From) < 0)) ∧ (¬ ((l1[k]!.To) = (-1))) ∧ ((l1[k]!.To) ≤ (l1[k]!.From)))) rfl hb94 (fun h101 => ?_) (fun h101 => ?_)
      · refine WP.cut (fun e116 w117 => ∃ (x114 : Bool), (True) ∧ Bp x114 ((e56 = 1) ∧ (¬ (ok55 = true)) ∧ (((no58 : Nat) : Int) = 0)) ∧ List.map e116 [2] = [.bool x114] ∧ Hp w Non [Res.row g78 [.int .i64 (l1[k]!.Client), .int .i64 (l1[k]!.Op), .bool (l1[k]!.Put), .string (l1[k]!.Key), .slice (l1[k]!.Value.a) (l1[k]!.Value.n) (l1[k]!.Value.c), .int .i64 (l1[k]!.Status), .int .i64 (l1[k]!.From), .int .i64 (l1[k]!.To), .bool (l1[k]!.Open), .int .i64 (l1[k]!.Tag.Count), .int .i64 (l1[k]!.Tag.Client)] 41, Res.own 3 1 (.slice ao57 no58 co59) no58 (List.flatMap (fun (y : Nat) => [Go.Value.int .i64 (y : Int)]) xs54), Res.own 41 11 (.slice ao38 no39 co40) no39 (List.flatMap GCall.cells cl41), Res.vl F42 cl41 vs43, Res.own 3 1 (.slice ao25 2 co27) 2 (List.flatMap (fun (y : Nat) => [Go.Value.int .i64 (y : Int)]) ([0, 1] : List Nat)), Res.row g12 [.int .i64 0, .int .i64 0, .bool true, .string ByteArray.empty, .slice (some ⟨g4, 0, none⟩) 1 1, .int .i64 0, .int .i64 0, .int .i64 1, .bool false, .int .i64 0, .int .i64 0, .int .i64 0, .int .i64 0, .bool false, .string ByteArray.empty, .slice (some ⟨g8, 0, none⟩) 1 1, .int .i64 0, .int .i64 2, .int .i64 3, .bool false, .int .i64 0, .int .i64 0] 41, Res.row g8 [.int .u8 1] 5, Res.row g4 [.int .u8 1] 5] w117) ?_ ?_
        · refine WP.region _ rfl (by kernel_rfl) ?_
          refine OPS.batch 3 {} [] [7, 8, 71] [.slice ao57 no58 co59, .bool ok55, .bool (decide (e56 = 1))] .nil (by kernel_rfl) (fun b103 => ?_)
          by_cases h104 : e56 = 1
          · refine OPS.batch 0 {} [] [7, 8, 71] [.slice ao57 no58 co59, .bool ok55, .bool (decide (e56 = 1))] .nil (by kernel_rfl) (fun b105 => ?_)
            refine OPS.re [.slice ao57 no58 co59, .bool ok55, .bool true] (by rw [show (decide (e56 = 1)) = true from Bp.dec.tt h104]) ?_
            refine OPS.batch 4 { wraps := [74] } [] [7, 75] [.slice ao57 no58 co59, .bool (!ok55)] .nil (by kernel_rfl) (fun b106 => ?_)
            by_cases h107 : ok55 = true
            · refine OPS.batch 0 {} [] [7, 75] [.slice ao57 no58 co59, .bool (!ok55)] .nil (by kernel_rfl) (fun b110 => ?_)
              refine OPS.re [.slice ao57 no58 co59, .bool false] (by rw [show (!ok55) = false from (Bp.not Bp.var).ff (fun k => k h107)]) ?_
              refine OPS.batch 5 { wraps := [79] } [] [2] [.bool false] .nil (by kernel_rfl) (fun b111 => ?_)
              refine OPS.nil ?_
              refine thn_n ?_
              exact ⟨false, trivial, Bp.of Bp.f (by first | (simp only [h104, h107, iff_false, false_iff, iff_true, true_iff, Classical.not_not, and_true, true_and, and_false, false_and, or_true, true_or, or_false, false_or, not_true_eq_false, not_false_eq_true, and_self, or_self, iff_self]; done) | (simp [h104, h107]; done) | simp_all), by kernel_rfl, hp97⟩
            · refine OPS.batch 0 {} [] [7, 75] [.slice ao57 no58 co59, .bool (!ok55)] .nil (by kernel_rfl) (fun b108 => ?_)
              refine OPS.re [.slice ao57 no58 co59, .bool true] (by rw [show (!ok55) = true from (Bp.not Bp.var).tt h107]) ?_
              refine OPS.batch 5 { wraps := [79] } [] [2] [.bool (decide (((no58 : Nat) : Int) = 0))] .nil (by kernel_rfl) (fun b109 => ?_)
              refine OPS.nil ?_
              refine thn_n ?_
              exact ⟨decide (((no58 : Nat) : Int) = 0), trivial, Bp.of Bp.dec (by first | (simp only [h104, h107, iff_false, false_iff, iff_true, true_iff, Classical.not_not, and_true, true_and, and_false, false_and, or_true, true_or, or_false, false_or, not_true_eq_false, not_false_eq_true, and_self, or_self, iff_self]; done) | (simp [h104, h107]; done) | simp_all), by kernel_rfl, hp97⟩
          · refine OPS.batch 0 {} [] [7, 8, 71] [.slice ao57 no58 co59, .bool ok55, .bool (decide (e56 = 1))] .nil (by kernel_rfl) (fun b112 => ?_)
            refine OPS.re [.slice ao57 no58 co59, .bool ok55, .bool false] (by rw [show (decide (e56 = 1)) = false from Bp.dec.ff h104]) ?_
            refine OPS.batch 9 { wraps := [74, 79] } [] [2] [.bool false] .nil (by kernel_rfl) (fun b113 => ?_)
            refine OPS.nil ?_
            refine thn_n ?_
            exact ⟨false, trivial, Bp.of Bp.f (by first | (simp only [h104, iff_false, false_iff, iff_true, true_iff, Classical.not_not, and_true, true_and, and_false, false_and, or_true, true_or, or_false, false_or, not_true_eq_false, not_false_eq_true, and_self, or_self, iff_self]; done) | (simp [h104]; done) | simp_all), by kernel_rfl, hp97⟩
        rintro e116 w117 ⟨x114, hd119, hb115, hE120, hp118⟩
        obtain ⟨b121, rfl⟩ := toMk hE120
        clear hE120
        clear hd119
        refine WP.ret ?_
        refine thn_r ?_
        refine blk_r ?_
        refine thn_r ?_
        refine thn_r ?_
        refine blk_r ?_
        refine thn_r ?_
        refine bodyQ.of _ rfl [.bool x114] ⟨rfl, trivial⟩ ?_
        exact ⟨congrArg (fun b => Ending.returned (.bool b)) (Bp.tt hb115 (by obtain ⟨hf1_, hf2_, hf3_⟩ := hc1 ⟨k, by omega, by simp only [okArg]; omega⟩; rw [hf3_, List.length_nil] at hxn_; simp [hf1_, hf2_]; omega)), hp118.fr⟩
      · refine WP.skip ?_
        refine thn_n ?_
        refine WP.seq ?_
        refine WP.region _ rfl (by kernel_rfl) ?_
        refine OPS.batch 1 {} [GCall.val (l1[k]!)] [0, 7, 8, 9, 10, 48, 49, 50, 80] [.slice s1.a s1.n s1.c, .slice ao57 no58 co59, .bool ok55, .int .i64 e56, .int .i64 cn, .slice s1.a s1.n s1.c, .int .i64 ((s1.n : Nat) : Int), .int .i64 (k : Int), GCall.val (l1[k]!)] (.cons (show Ld Try.prog w96 41 ⟨g78, 0, none⟩ (GCall.val (l1[k]!)) from Ld.rowN (cs := [.int .i64 (l1[k]!.Client), .int .i64 (l1[k]!.Op), .bool (l1[k]!.Put), .string (l1[k]!.Key), .slice (l1[k]!.Value.a) (l1[k]!.Value.n) (l1[k]!.Value.c), .int .i64 (l1[k]!.Status), .int .i64 (l1[k]!.From), .int .i64 (l1[k]!.To), .bool (l1[k]!.Open), .int .i64 (l1[k]!.Tag.Count), .int .i64 (l1[k]!.Tag.Client)]) hp97.get0 (by kernel_rfl)) .nil) (by kernel_rfl) (fun b122 => ?_)
        refine OPS.cons (opStep.call (some 81) [GCall.val (l1[k]!)] (by kernel_rfl) (top_part (l1[k]!) _) ?_)
        rintro _ w125 ⟨rfl, hf126⟩
        refine ⟨_, rfl, ?_⟩
        have hp127 := hp97.step hf126
        refine OPS.batch 1 {} [] [0, 7, 8, 9, 10, 48, 49, 50, 82] [.slice s1.a s1.n s1.c, .slice ao57 no58 co59, .bool ok55, .int .i64 e56, .int .i64 cn, .slice s1.a s1.n s1.c, .int .i64 ((s1.n : Nat) : Int), .int .i64 (k : Int), .bool (decide (0 < (partT (l1[k]!))))] .nil (by kernel_rfl) (fun b128 => ?_)
        refine OPS.nil ?_
        refine thn_n ?_
        refine WP.test (p := 0 < (partT (l1[k]!))) rfl Bp.dec (fun h129 => ?_) (fun h129 => ?_)
        · refine WP.pure {} [] [0, 7, 8, 9, 10, 48, 49, 50] [.slice s1.a s1.n s1.c, .slice ao57 no58 co59, .bool ok55, .int .i64 e56, .int .i64 (cn + 1), .slice s1.a s1.n s1.c, .int .i64 ((s1.n : Nat) : Int), .int .i64 (k : Int)] (.cons (show Rng .i64 (cn + 1) from Rng.i64 (by omega)) .nil) (by kernel_rfl) (fun b130 => ?_)
          refine blk_n ?_
          refine thn_n ?_
          refine WP.pure {} [] [0, 7, 8, 9, 10, 48, 49, 50] [.slice s1.a s1.n s1.c, .slice ao57 no58 co59, .bool ok55, .int .i64 e56, .int .i64 (cn + 1), .slice s1.a s1.n s1.c, .int .i64 ((s1.n : Nat) : Int), .int .i64 ((k : Int) + 1)] (.cons (show Rng .i64 ((k : Int) + 1) from Rng.i64 (by omega)) .nil) (by kernel_rfl) (fun b131 => ?_)
          refine thn_n ?_
          exact ⟨l1.length - (k + 1), (by omega), k + 1, cn + 1, rfl, ⟨by omega, by simp only [cntN]; rw [if_pos (partT_pos.1 h129)]; omega, fun j hj => by rcases Nat.lt_or_ge j k with q | q; exact k3 j q; (obtain rfl : j = k := by omega); simp only [okArg]; omega⟩, by kernel_rfl, (hp127.sub (.cons _ (.cons_cons _ (.cons_cons _ (.cons_cons _ (.cons_cons _ (.cons_cons _ (.cons_cons _ (.cons_cons _ (.slnil))))))))))⟩
        · refine WP.skip ?_
          refine blk_n ?_
          refine thn_n ?_
          refine WP.pure {} [] [0, 7, 8, 9, 10, 48, 49, 50] [.slice s1.a s1.n s1.c, .slice ao57 no58 co59, .bool ok55, .int .i64 e56, .int .i64 cn, .slice s1.a s1.n s1.c, .int .i64 ((s1.n : Nat) : Int), .int .i64 ((k : Int) + 1)] (.cons (show Rng .i64 ((k : Int) + 1) from Rng.i64 (by omega)) .nil) (by kernel_rfl) (fun b132 => ?_)
          refine thn_n ?_
          exact ⟨l1.length - (k + 1), (by omega), k + 1, cn, rfl, ⟨by omega, by simp only [cntN]; rw [if_neg (fun z => h129 (partT_pos.2 z))]; omega, fun j hj => by rcases Nat.lt_or_ge j k with q | q; exact k3 j q; (obtain rfl : j = k := by omega); simp only [okArg]; omega⟩, by kernel_rfl, (hp127.sub (.cons _ (.cons_cons _ (.cons_cons _ (.cons_cons _ (.cons_cons _ (.cons_cons _ (.cons_cons _ (.cons_cons _ (.slnil))))))))))⟩
    · refine WP.exit ?_
      refine thn_x ?_
      refine thn_x ?_
      refine blk_hit ?_
      refine thn_n ?_
      refine WP.seq ?_
      refine WP.seq ?_
      refine WP.pure {} [] [0, 7, 8, 9, 87] [.slice s1.a s1.n s1.c, .slice ao57 no58 co59, .bool ok55, .int .i64 e56, .bool (decide (24 < cn))] .nil (by kernel_rfl) (fun b133 => ?_)
      refine thn_n ?_
      refine WP.test (p := 24 < cn) rfl Bp.dec (fun h134 => ?_) (fun h134 => ?_)
      · refine WP.cut (fun e149 w150 => ∃ (x147 : Bool), (True) ∧ Bp x147 ((e56 = 4) ∧ (¬ (ok55 = true)) ∧ (((no58 : Nat) : Int) = 0)) ∧ List.map e149 [2] = [.bool x147] ∧ Hp w Non [Res.own 3 1 (.slice ao57 no58 co59) no58 (List.flatMap (fun (y : Nat) => [Go.Value.int .i64 (y : Int)]) xs54), Res.own 41 11 (.slice ao38 no39 co40) no39 (List.flatMap GCall.cells cl41), Res.vl F42 cl41 vs43, Res.own 3 1 (.slice ao25 2 co27) 2 (List.flatMap (fun (y : Nat) => [Go.Value.int .i64 (y : Int)]) ([0, 1] : List Nat)), Res.row g12 [.int .i64 0, .int .i64 0, .bool true, .string ByteArray.empty, .slice (some ⟨g4, 0, none⟩) 1 1, .int .i64 0, .int .i64 0, .int .i64 1, .bool false, .int .i64 0, .int .i64 0, .int .i64 0, .int .i64 0, .bool false, .string ByteArray.empty, .slice (some ⟨g8, 0, none⟩) 1 1, .int .i64 0, .int .i64 2, .int .i64 3, .bool false, .int .i64 0, .int .i64 0] 41, Res.row g8 [.int .u8 1] 5, Res.row g4 [.int .u8 1] 5] w150) ?_ ?_
        · refine WP.region _ rfl (by kernel_rfl) ?_
          refine OPS.batch 3 {} [] [7, 8, 90] [.slice ao57 no58 co59, .bool ok55, .bool (decide (e56 = 4))] .nil (by kernel_rfl) (fun b136 => ?_)
          by_cases h137 : e56 = 4
          · refine OPS.batch 0 {} [] [7, 8, 90] [.slice ao57 no58 co59, .bool ok55, .bool (decide (e56 = 4))] .nil (by kernel_rfl) (fun b138 => ?_)
            refine OPS.re [.slice ao57 no58 co59, .bool ok55, .bool true] (by rw [show (decide (e56 = 4)) = true from Bp.dec.tt h137]) ?_
            refine OPS.batch 4 { wraps := [93] } [] [7, 94] [.slice ao57 no58 co59, .bool (!ok55)] .nil (by kernel_rfl) (fun b139 => ?_)
            by_cases h140 : ok55 = true
            · refine OPS.batch 0 {} [] [7, 94] [.slice ao57 no58 co59, .bool (!ok55)] .nil (by kernel_rfl) (fun b143 => ?_)
              refine OPS.re [.slice ao57 no58 co59, .bool false] (by rw [show (!ok55) = false from (Bp.not Bp.var).ff (fun k => k h140)]) ?_
              refine OPS.batch 5 { wraps := [98] } [] [2] [.bool false] .nil (by kernel_rfl) (fun b144 => ?_)
              refine OPS.nil ?_
              refine thn_n ?_
              exact ⟨false, trivial, Bp.of Bp.f (by first | (simp only [h137, h140, iff_false, false_iff, iff_true, true_iff, Classical.not_not, and_true, true_and, and_false, false_and, or_true, true_or, or_false, false_or, not_true_eq_false, not_false_eq_true, and_self, or_self, iff_self]; done) | (simp [h137, h140]; done) | simp_all), by kernel_rfl, hp65⟩
            · refine OPS.batch 0 {} [] [7, 94] [.slice ao57 no58 co59, .bool (!ok55)] .nil (by kernel_rfl) (fun b141 => ?_)
              refine OPS.re [.slice ao57 no58 co59, .bool true] (by rw [show (!ok55) = true from (Bp.not Bp.var).tt h140]) ?_
              refine OPS.batch 5 { wraps := [98] } [] [2] [.bool (decide (((no58 : Nat) : Int) = 0))] .nil (by kernel_rfl) (fun b142 => ?_)
              refine OPS.nil ?_
              refine thn_n ?_
              exact ⟨decide (((no58 : Nat) : Int) = 0), trivial, Bp.of Bp.dec (by first | (simp only [h137, h140, iff_false, false_iff, iff_true, true_iff, Classical.not_not, and_true, true_and, and_false, false_and, or_true, true_or, or_false, false_or, not_true_eq_false, not_false_eq_true, and_self, or_self, iff_self]; done) | (simp [h137, h140]; done) | simp_all), by kernel_rfl, hp65⟩
          · refine OPS.batch 0 {} [] [7, 8, 90] [.slice ao57 no58 co59, .bool ok55, .bool (decide (e56 = 4))] .nil (by kernel_rfl) (fun b145 => ?_)
            refine OPS.re [.slice ao57 no58 co59, .bool ok55, .bool false] (by rw [show (decide (e56 = 4)) = false from Bp.dec.ff h137]) ?_
            refine OPS.batch 9 { wraps := [93, 98] } [] [2] [.bool false] .nil (by kernel_rfl) (fun b146 => ?_)
            refine OPS.nil ?_
            refine thn_n ?_
            exact ⟨false, trivial, Bp.of Bp.f (by first | (simp only [h137, iff_false, false_iff, iff_true, true_iff, Classical.not_not, and_true, true_and, and_false, false_and, or_true, true_or, or_false, false_or, not_true_eq_false, not_false_eq_true, and_self, or_self, iff_self]; done) | (simp [h137]; done) | simp_all), by kernel_rfl, hp65⟩
        rintro e149 w150 ⟨x147, hd152, hb148, hE153, hp151⟩
        obtain ⟨b154, rfl⟩ := toMk hE153
        clear hE153
        clear hd152
        refine WP.ret ?_
        refine thn_r ?_
        refine bodyQ.of _ rfl [.bool x147] ⟨rfl, trivial⟩ ?_
        exact ⟨congrArg (fun b => Ending.returned (.bool b)) (Bp.tt hb148 (by obtain ⟨hf1_, hf2_, hf3_⟩ := hc2 (fun j hj => k3 j (by omega)) (by rw [show l1.length = k from by omega]; omega); rw [hf3_, List.length_nil] at hxn_; simp [hf1_, hf2_]; omega)), hp151.fr⟩
      · refine WP.skip ?_
        refine thn_n ?_
        refine WP.seq ?_
        refine WP.cut (fun e172 w173 => ∃ (x170 : Bool), (True) ∧ Bp x170 (((¬ (e56 = 0))) ∨ ((e56 = 0) ∧ (¬ (((ok55 = true) ↔ (∃ p, PathA (valAt w) l1 [] p)))))) ∧ List.map e172 [0, 7, 8, 106] = [.slice s1.a s1.n s1.c, .slice ao57 no58 co59, .bool ok55, .bool x170] ∧ Hp w Non [Res.own 3 1 (.slice ao57 no58 co59) no58 (List.flatMap (fun (y : Nat) => [Go.Value.int .i64 (y : Int)]) xs54), Res.own 41 11 (.slice ao38 no39 co40) no39 (List.flatMap GCall.cells cl41), Res.vl F42 cl41 vs43, Res.own 3 1 (.slice ao25 2 co27) 2 (List.flatMap (fun (y : Nat) => [Go.Value.int .i64 (y : Int)]) ([0, 1] : List Nat)), Res.row g12 [.int .i64 0, .int .i64 0, .bool true, .string ByteArray.empty, .slice (some ⟨g4, 0, none⟩) 1 1, .int .i64 0, .int .i64 0, .int .i64 1, .bool false, .int .i64 0, .int .i64 0, .int .i64 0, .int .i64 0, .bool false, .string ByteArray.empty, .slice (some ⟨g8, 0, none⟩) 1 1, .int .i64 0, .int .i64 2, .int .i64 3, .bool false, .int .i64 0, .int .i64 0] 41, Res.row g8 [.int .u8 1] 5, Res.row g4 [.int .u8 1] 5] w173) ?_ ?_
        · refine WP.region _ rfl (by kernel_rfl) ?_
          refine OPS.batch 3 {} [] [0, 7, 8, 101] [.slice s1.a s1.n s1.c, .slice ao57 no58 co59, .bool ok55, .bool (decide (¬ (e56 = 0)))] .nil (by kernel_rfl) (fun b156 => ?_)
          by_cases h157 : e56 = 0
          · refine OPS.batch 0 {} [] [0, 7, 8, 101] [.slice s1.a s1.n s1.c, .slice ao57 no58 co59, .bool ok55, .bool (decide (¬ (e56 = 0)))] .nil (by kernel_rfl) (fun b160 => ?_)
            refine OPS.re [.slice s1.a s1.n s1.c, .slice ao57 no58 co59, .bool ok55, .bool false] (by rw [show (decide (¬ (e56 = 0))) = false from Bp.dec.ff (fun k => k h157)]) ?_
            refine OPS.batch 2 {} [] [0, 7, 8, 101, 102, 103] [.slice s1.a s1.n s1.c, .slice ao57 no58 co59, .bool ok55, .bool false, .bool ok55, .slice s1.a s1.n s1.c] .nil (by kernel_rfl) (fun b161 => ?_)
            refine OPS.want (by kernel_rfl) ?_
            refine OPS.cons (opStep.call (some 104) [.slice s1.a s1.n s1.c] (by kernel_rfl) (top_explained_at hp65.fr hn1.symm o1.rd hv hr hvn (by omega)) ?_)
            rintro _ w164 ⟨b167, rfl, hb168, hf165⟩
            refine ⟨_, rfl, ?_⟩
            have hp166 := hp65.step hf165
            refine OPS.batch 2 { wraps := [106] } [] [0, 7, 8, 106] [.slice s1.a s1.n s1.c, .slice ao57 no58 co59, .bool ok55, .bool (!(ok55 == b167))] .nil (by kernel_rfl) (fun b169 => ?_)
            refine OPS.nil ?_
            refine thn_n ?_
            exact ⟨!(ok55 == b167), trivial, Bp.of (Bp.not (Bp.beq Bp.var hb168)) (by first | (simp only [h157, iff_false, false_iff, iff_true, true_iff, Classical.not_not, and_true, true_and, and_false, false_and, or_true, true_or, or_false, false_or, not_true_eq_false, not_false_eq_true, and_self, or_self, iff_self]; done) | (simp [h157]; done) | simp_all), by kernel_rfl, hp166⟩
          · refine OPS.batch 0 {} [] [0, 7, 8, 101] [.slice s1.a s1.n s1.c, .slice ao57 no58 co59, .bool ok55, .bool (decide (¬ (e56 = 0)))] .nil (by kernel_rfl) (fun b158 => ?_)
            refine OPS.re [.slice s1.a s1.n s1.c, .slice ao57 no58 co59, .bool ok55, .bool true] (by rw [show (decide (¬ (e56 = 0))) = true from Bp.dec.tt h157]) ?_
            refine OPS.batch 5 { wraps := [106] } [] [0, 7, 8, 106] [.slice s1.a s1.n s1.c, .slice ao57 no58 co59, .bool ok55, .bool true] .nil (by kernel_rfl) (fun b159 => ?_)
            refine OPS.nil ?_
            refine thn_n ?_
            exact ⟨true, trivial, Bp.of Bp.t (by first | (simp only [h157, iff_false, false_iff, iff_true, true_iff, Classical.not_not, and_true, true_and, and_false, false_and, or_true, true_or, or_false, false_or, not_true_eq_false, not_false_eq_true, and_self, or_self, iff_self]; done) | (simp [h157]; done) | simp_all), by kernel_rfl, hp65⟩
        rintro e172 w173 ⟨x170, hd175, hb171, hE176, hp174⟩
        obtain ⟨b177, rfl⟩ := toMk hE176
        clear hE176
        clear hd175
        refine WP.test (p := ((¬ (e56 = 0))) ∨ ((e56 = 0) ∧ (¬ (((ok55 = true) ↔ (∃ p, PathA (valAt w) l1 [] p)))))) rfl hb171 (fun h178 => ?_) (fun h178 => ?_)
        · refine WP.seq ?_
          have hk3_ := hc3 (fun j hj => k3 j (by omega)) (by rw [show l1.length = k from by omega]; omega)
          obtain ⟨hf1_, hf2_, hf4_, hf5_⟩ := hk3_
          have hk3_ := hc3 (fun j hj => k3 j (by omega)) (by rw [show l1.length = k from by omega]; omega)
          refine WP.pure {} [] [2] [.bool false] .nil (by kernel_rfl) (fun b179 => ?_)
          refine thn_n ?_
          refine WP.ret ?_
          refine thn_r ?_
          refine bodyQ.of _ rfl [.bool false] ⟨rfl, trivial⟩ ?_
          exfalso
          first | (clear h33 h70 h134; rcases h178 with q | q; exact q hf1_; exact q.2 hf2_) | rcases h178 with q | q; exact q hf1_; exact q.2 hf2_
        · refine WP.skip ?_
          refine thn_n ?_
          refine WP.seq ?_
          refine WP.seq ?_
          have hk3_ := hc3 (fun j hj => k3 j (by omega)) (by rw [show l1.length = k from by omega]; omega)
          obtain ⟨hf1_, hf2_, hf4_, hf5_⟩ := hk3_
          have hk3_ := hc3 (fun j hj => k3 j (by omega)) (by rw [show l1.length = k from by omega]; omega)
          refine WP.pure {} [] [0, 7, 108] [.slice s1.a s1.n s1.c, .slice ao57 no58 co59, .bool (!ok55)] .nil (by kernel_rfl) (fun b180 => ?_)
          refine thn_n ?_
          refine WP.test (p := ¬ (ok55 = true)) rfl (Bp.not Bp.var) (fun h181 => ?_) (fun h181 => ?_)
          · refine WP.seq ?_
            have hf3_ := hf5_ (by simpa using h181)
            rw [hf3_, List.length_nil] at hxn_
            refine WP.pure {} [] [2] [.bool (decide (((no58 : Nat) : Int) = 0))] .nil (by kernel_rfl) (fun b182 => ?_)
            refine thn_n ?_
            refine WP.ret ?_
            refine thn_r ?_
            refine bodyQ.of _ rfl [.bool (decide (((no58 : Nat) : Int) = 0))] ⟨rfl, trivial⟩ ?_
            exact ⟨congrArg (fun b => Ending.returned (.bool b)) (Bp.tt Bp.dec (by omega)), hp174.fr⟩
          · replace h181 := Classical.not_not.1 h181
            refine WP.skip ?_
            refine thn_n ?_
            refine WP.seq ?_
            have hyes_ : ok55 = true := h181
            refine WP.region _ rfl (by kernel_rfl) ?_
            refine OPS.batch 2 {} [] [112, 113] [.slice s1.a s1.n s1.c, .slice ao57 no58 co59] .nil (by kernel_rfl) (fun b183 => ?_)
            refine OPS.cons (opStep.call (some 114) [.slice s1.a s1.n s1.c, .slice ao57 no58 co59] (by kernel_rfl) (top_explains_at hp174.fr hn1.symm o1.rd hv hr hvn (by omega) xs54 ao57 no58 co59 (SlR.own hp174.get0) hxn_ (hk3_.2.2.1 hyes_)) ?_)
            rintro _ w186 ⟨rfl, hf187⟩
            refine ⟨_, rfl, ?_⟩
            have hp188 := hp174.step hf187
            refine OPS.batch 1 {} [] [2] [.bool true] .nil (by kernel_rfl) (fun b189 => ?_)
            refine OPS.nil ?_
            refine thn_n ?_
            refine WP.ret ?_
            refine bodyQ.of _ rfl [.bool true] ⟨rfl, trivial⟩ ?_
            exact ⟨rfl, hp188.fr⟩

end Go.Proofs.Ythdkbbpiaeaojaa.K
