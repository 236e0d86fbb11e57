/- The walks of WQuorumPlays: what each function computes. -/
import Derived.Test.YthdkbbpiaeaojaaProg
import Derived.Test.YthdkbbpiaeaojaaCoreO
import Derived.Test.YthdkbbpiaeaojaaPlayE
import Derived.Test.YthdkbbpiaeaojaaOpen
namespace Go.Proofs.Ythdkbbpiaeaojaa.K
open Go Go.Proofs Go.RowKit
set_option linter.unusedVariables false
set_option linter.unusedSimpArgs false
set_option maxRecDepth 20000
set_option maxHeartbeats 4000000

theorem QuorumPlays {okp : Gsherdlaw09_Op → Prop} (BN : Nat) (hBN : BN ≤ 10000000000000) (w : World) (s1 : SlH) (l1 : List Gsherdlaw09_Op) (o1 : SlD w (α := Gsherdlaw09_Op) Gsherdlaw09_Op.cells okp BN s1 l1) :
    Calls Try.prog 11 #[.slice s1.a s1.n s1.c] w (fun x w' => x = .returned (.bool true) ∧ Fram Non w w') := by
  have hn1 := o1.len
  have hc1 := o1.cap
  have hd1 := o1.bnd
  refine calls_of Try.func11 rfl 46 rfl (by simp) ?_
  have hp0 := Hp.init w
  have he0 : List.map (env0 [.slice s1.a s1.n s1.c]) [0] = [.slice s1.a s1.n s1.c] := by kernel_rfl
  obtain ⟨b0, he0⟩ := toMk he0
  rw [he0]
  clear he0
  refine WP.seq ?_
  refine WP.pure {} [] [0] [.slice s1.a s1.n s1.c] .nil (by kernel_rfl) (fun b1 => ?_)
  refine thn_n ?_
  refine WP.seq ?_
  refine WP.region _ rfl (by kernel_rfl) ?_
  refine OPS.batch 1 {} [] [0, 7] [.slice s1.a s1.n s1.c, .agg #[.slice none 0 0, .slice none 0 0]] .nil (by kernel_rfl) (fun b2 => ?_)
  refine OPS.cons (opStep.box hp0 [.slice none 0 0, .slice none 0 0] (by kernel_rfl) (fun g5 w3 hp4 => ?_))
  refine OPS.batch 1 {} [] [0, 3] [.slice s1.a s1.n s1.c, .pointer (some ⟨g5, 0, none⟩)] .nil (by kernel_rfl) (fun b6 => ?_)
  refine OPS.nil ?_
  refine thn_n ?_
  refine WP.seq ?_
  refine WP.seq ?_
  refine WP.pure {} [] [3, 9, 10, 11] [.pointer (some ⟨g5, 0, none⟩), .slice s1.a s1.n s1.c, .int .i64 ((s1.n : Nat) : Int), .int .i64 0] .nil (by kernel_rfl) (fun b7 => ?_)
  refine thn_n ?_
  refine WP.block ?_
  have hp8 := hp4.nilOwn 85 1
  have hp9 := hp8.nilOwn 62 1
  have hp10 := (show Hp w Non [Res.ents [], Res.own 62 1 (.slice none 0 0) 0 [], Res.own 85 1 (.slice none 0 0) 0 [], Res.row g5 [.slice none 0 0, .slice none 0 0] 80] _ from hp9.allNil)
  have hp11 := (show Hp w Non [Res.ents ([] : List Ent), Res.row g5 [.slice none 0 0, .slice none 0 0] 80, Res.own 62 1 (.slice none 0 0) 0 (List.flatMap entS ([] : List Ent)), Res.own 85 1 (.slice none 0 0) 0 (List.flatMap entR ([] : List Ent))] _ from hp10.pull3.pull1)
  refine WP.loop (fun mz_ e12 w13 => ∃ (k : Nat) (es : List Ent) (aS : Option Addr) (nS : Nat) (cS : Nat) (aR : Option Addr) (nR : Nat) (cR : Nat), mz_ = l1.length - k ∧ (k ≤ l1.length ∧ es.length ≤ k ∧ ∀ i, i < es.length → Ent.ok es[i]!) ∧ List.map e12 [3, 9, 10, 11] = [.pointer (some ⟨g5, 0, none⟩), .slice s1.a s1.n s1.c, .int .i64 ((s1.n : Nat) : Int), .int .i64 (k : Int)] ∧ Hp w Non [Res.ents es, Res.row g5 [.slice aS nS cS, .slice aR nR cR] 80, Res.own 62 1 (.slice aS nS cS) nS (List.flatMap entS es), Res.own 85 1 (.slice aR nR cR) nR (List.flatMap entR es)] w13) (l1.length - (0)) ⟨0, [], none, 0, 0, none, 0, 0, rfl, ⟨by omega, by simp, fun i hi => by simp at hi⟩, by kernel_rfl, hp11⟩ ?_
  rintro _ e12 w13 ⟨k, es, aS, nS, cS, aR, nR, cR, rfl, hI15, hE16, hp14⟩
  obtain ⟨b17, rfl⟩ := toMk hE16
  clear hE16
  obtain ⟨pa, pb, pok⟩ := hI15
  have pn := own_flat (sz := 1) (fun _ => rfl) (by decide) hp14.get2
  have pr := own_flat (sz := 1) (fun _ => rfl) (by decide) hp14.get3
  refine WP.seq ?_
  refine WP.pure {} [] [3, 9, 10, 11, 12] [.pointer (some ⟨g5, 0, none⟩), .slice s1.a s1.n s1.c, .int .i64 ((s1.n : Nat) : Int), .int .i64 (k : Int), .bool (decide ((k : Int) < ((s1.n : Nat) : Int)))] .nil (by kernel_rfl) (fun b18 => ?_)
  refine thn_n ?_
  refine WP.seq ?_
  refine WP.test (p := (k : Int) < ((s1.n : Nat) : Int)) rfl Bp.dec (fun h19 => ?_) (fun h19 => ?_)
  · refine WP.skip ?_
    refine thn_n ?_
    refine WP.seq ?_
    refine WP.block ?_
    refine WP.seq ?_
    refine WP.region _ rfl (by kernel_rfl) ?_
    have hy23 : (l1)[k]? = some l1[k]! := get_bang (by first | (omega) | (simp only [List.length_append, List.length_cons, List.length_nil]; omega) | (simp only [List.length_take, List.length_append, List.length_cons, List.length_nil]; omega))
    refine OPS.batch 2 {} [Gsherdlaw09_Op.val (l1[k]!)] [3, 9, 10, 11, 14] [.pointer (some ⟨g5, 0, none⟩), .slice s1.a s1.n s1.c, .int .i64 ((s1.n : Nat) : Int), .int .i64 (k : Int), Gsherdlaw09_Op.val (l1[k]!)] (.cons (show InB ((k : Int)) (s1.n) from ⟨by omega, by omega⟩) (.cons ((o1.rd.at hp14).some (by omega)) (.cons (Ld.add0 (Ld.elN (P := Try.prog) (t := 82) (o1.rd.at hp14).rd 7 (fun _ => rfl) hy23 (o := 0) (cs := [.int .i64 (l1[k]!.Kind), .int .i64 (l1[k]!.Config.N), .int .i64 (l1[k]!.Config.K), .int .i64 (l1[k]!.Config.Delta), .int .i64 (l1[k]!.I), .int .i64 (l1[k]!.J), .int .i64 (l1[k]!.N)]) (by kernel_rfl))) .nil))) (by kernel_rfl) (fun b24 => ?_)
    refine OPS.cons (opStep.alloc hp14 [.int .i64 0, .int .i64 0, .int .i64 0, .int .i64 0, .int .i64 0, .int .i64 0, .int .i64 0] (by kernel_rfl) (fun g27 w25 hp26 => ?_))
    refine OPS.cons (opStep.store0 hp26 rfl [.int .i64 (l1[k]!.Kind), .int .i64 (l1[k]!.Config.N), .int .i64 (l1[k]!.Config.K), .int .i64 (l1[k]!.Config.Delta), .int .i64 (l1[k]!.I), .int .i64 (l1[k]!.J), .int .i64 (l1[k]!.N)] [.int .i64 (l1[k]!.Kind), .int .i64 (l1[k]!.Config.N), .int .i64 (l1[k]!.Config.K), .int .i64 (l1[k]!.Config.Delta), .int .i64 (l1[k]!.I), .int .i64 (l1[k]!.J), .int .i64 (l1[k]!.N)] (by kernel_rfl) (fun w28 hp29 => ?_))
    refine OPS.nil ?_
    refine thn_n ?_
    refine WP.seq ?_
    refine WP.region _ rfl (by kernel_rfl) ?_
    refine OPS.batch 2 {} [Gsherdlaw09_Op.val (l1[k]!)] [3, 9, 10, 11, 15, 16] [.pointer (some ⟨g5, 0, none⟩), .slice s1.a s1.n s1.c, .int .i64 ((s1.n : Nat) : Int), .int .i64 (k : Int), .pointer (some ⟨g5, 0, none⟩), Gsherdlaw09_Op.val (l1[k]!)] (.cons (show Ld Try.prog w28 82 ⟨g27, 0, none⟩ (Gsherdlaw09_Op.val (l1[k]!)) from Ld.rowN (cs := [.int .i64 (l1[k]!.Kind), .int .i64 (l1[k]!.Config.N), .int .i64 (l1[k]!.Config.K), .int .i64 (l1[k]!.Config.Delta), .int .i64 (l1[k]!.I), .int .i64 (l1[k]!.J), .int .i64 (l1[k]!.N)]) hp29.get0 (by kernel_rfl)) .nil) (by kernel_rfl) (fun b30 => ?_)
    have hp33 := hp29.pull4
    have hp34 := hp33.pull4
    have hp35 := hp34.pull4
    have hp36 := hp35.pull4
    refine OPS.cons (opStep.call (some 17) [.pointer (some ⟨g5, 0, none⟩), Gsherdlaw09_Op.val (l1[k]!)] (by kernel_rfl) (book_plays _ _ g5 es aS nS cS aR nR cR (l1[k]!) _ (by omega) pok hp36) ?_)
    rintro _ w37 ⟨es39, aS42, nS43, cS44, aR45, nR46, cR47, rfl, hok40, hel41, hp38⟩
    refine ⟨_, rfl, ?_⟩
    refine OPS.batch 1 {} [] [3, 9, 10, 11, 18] [.pointer (some ⟨g5, 0, none⟩), .slice s1.a s1.n s1.c, .int .i64 ((s1.n : Nat) : Int), .int .i64 (k : Int), .bool false] .nil (by kernel_rfl) (fun b48 => ?_)
    refine OPS.nil ?_
    refine thn_n ?_
    refine WP.condF rfl ?_
    refine WP.skip ?_
    refine blk_n ?_
    refine thn_n ?_
    refine WP.pure {} [] [3, 9, 10, 11] [.pointer (some ⟨g5, 0, none⟩), .slice s1.a s1.n s1.c, .int .i64 ((s1.n : Nat) : Int), .int .i64 ((k : Int) + 1)] (.cons (show Rng .i64 ((k : Int) + 1) from Rng.i64 (by omega)) .nil) (by kernel_rfl) (fun b49 => ?_)
    refine thn_n ?_
    exact ⟨l1.length - (k + 1), (by omega), k + 1, es39, aS42, nS43, cS44, aR45, nR46, cR47, rfl, ⟨by omega, by omega, hok40⟩, by kernel_rfl, (hp38.sub (.cons_cons _ (.cons_cons _ (.cons_cons _ (.cons_cons _ (.cons _ (.slnil)))))))⟩
  · refine WP.exit ?_
    refine thn_x ?_
    refine thn_x ?_
    refine blk_hit ?_
    refine thn_n ?_
    refine WP.seq ?_
    refine WP.seq ?_
    refine WP.pure {} [.slice aS nS cS] [3, 24, 25] [.pointer (some ⟨g5, 0, none⟩), .int .i64 ((nS : Nat) : Int), .int .i64 0] (.cons (Ld.row1 (P := Try.prog) (t := 77) (o := 0) (v := .slice aS nS cS) hp14.get1 (by kernel_rfl)) .nil) (by kernel_rfl) (fun b50 => ?_)
    refine thn_n ?_
    refine WP.block ?_
    refine WP.loop (fun mz_ e51 w52 => ∃ (i : Nat), mz_ = es.length - i ∧ (i ≤ es.length) ∧ List.map e51 [3, 24, 25] = [.pointer (some ⟨g5, 0, none⟩), .int .i64 ((nS : Nat) : Int), .int .i64 (i : Int)] ∧ Hp w Non [Res.ents es, Res.row g5 [.slice aS nS cS, .slice aR nR cR] 80, Res.own 62 1 (.slice aS nS cS) nS (List.flatMap entS es), Res.own 85 1 (.slice aR nR cR) nR (List.flatMap entR es)] w52) (es.length - (0)) ⟨0, rfl, (by omega), by kernel_rfl, hp14⟩ ?_
    rintro _ e51 w52 ⟨i, rfl, hI54, hE55, hp53⟩
    obtain ⟨b56, rfl⟩ := toMk hE55
    clear hE55
    obtain pi := hI54
    refine WP.seq ?_
    refine WP.pure {} [] [3, 24, 25, 26] [.pointer (some ⟨g5, 0, none⟩), .int .i64 ((nS : Nat) : Int), .int .i64 (i : Int), .bool (decide ((i : Int) < ((nS : Nat) : Int)))] .nil (by kernel_rfl) (fun b57 => ?_)
    refine thn_n ?_
    refine WP.seq ?_
    refine WP.test (p := (i : Int) < ((nS : Nat) : Int)) rfl Bp.dec (fun h58 => ?_) (fun h58 => ?_)
    · refine WP.skip ?_
      refine thn_n ?_
      refine WP.seq ?_
      refine WP.block ?_
      refine WP.seq ?_
      refine WP.pure {} [] [3, 6, 24, 25] [.pointer (some ⟨g5, 0, none⟩), .int .i64 (i : Int), .int .i64 ((nS : Nat) : Int), .int .i64 (i : Int)] .nil (by kernel_rfl) (fun b59 => ?_)
      refine thn_n ?_
      refine WP.seq ?_
      have hp62 := hp53.drew
      refine WP.quiet (fun w60 => Hp w Non [Res.ents es, Res.row g5 [.slice aS nS cS, .slice aR nR cR] 80, Res.own 62 1 (.slice aS nS cS) nS (List.flatMap entS es), Res.own 85 1 (.slice aR nR cR) nR (List.flatMap entR es)] w60) (by kernel_rfl) hp62 ?_
      have hnehp62 : ∃ wz_, (fun w60 => Hp w Non [Res.ents es, Res.row g5 [.slice aS nS cS, .slice aR nR cR] 80, Res.own 62 1 (.slice aS nS cS) nS (List.flatMap entS es), Res.own 85 1 (.slice aR nR cR) nR (List.flatMap entR es)] w60) wz_ := ⟨_, hp62⟩
      have := own_flat (sz := 1) (fun _ => rfl) (by decide) hp62.get2
      have hy66 : (es)[i]? = some es[i]! := get_bang (by first | (omega) | (simp only [List.length_append, List.length_cons, List.length_nil]; omega) | (simp only [List.length_take, List.length_append, List.length_cons, List.length_nil]; omega))
      refine QOPS.batch 14 {} [.slice aS nS cS, .pointer (some ⟨(es[i]!).p, 0, none⟩), .slice aR nR cR, .pointer (some ⟨(es[i]!).q, 0, none⟩)] [3, 24, 25, 34, 41] [.pointer (some ⟨g5, 0, none⟩), .int .i64 ((nS : Nat) : Int), .int .i64 (i : Int), .pointer (some ⟨(es[i]!).p, 0, none⟩), .pointer (some ⟨(es[i]!).q, 0, none⟩)] hnehp62 (fun w63 hp64 => QB.mk (.cons (Ld.row1 (P := Try.prog) (t := 77) (o := 0) (v := .slice aS nS cS) hp64.get1 (by kernel_rfl)) (.cons (show InB ((i : Int)) (nS) from ⟨by omega, by omega⟩) (.cons ((SlR.own (hp64.get2)).some (by omega)) (.cons (Ld.add0 (Ld.el1 (P := Try.prog) (t := 62) (SlR.own (hp64.get2)).rd 1 (fun _ => rfl) hy66 (o := 0) (v := .pointer (some ⟨(es[i]!).p, 0, none⟩)) (by kernel_rfl))) (.cons (Ld.row1 (P := Try.prog) (t := 78) (o := 1) (v := .slice aR nR cR) hp64.get1 (by kernel_rfl)) (.cons (show InB ((i : Int)) (nR) from ⟨by omega, by omega⟩) (.cons ((SlR.own (hp64.get3)).some (by omega)) (.cons (Ld.add0 (Ld.el1 (P := Try.prog) (t := 85) (SlR.own (hp64.get3)).rd 1 (fun _ => rfl) hy66 (o := 0) (v := .pointer (some ⟨(es[i]!).q, 0, none⟩)) (by kernel_rfl))) .nil)))))))) (by kernel_rfl)) (fun b67 => ?_)
      refine QOPS.call (some 42) [.pointer (some ⟨(es[i]!).p, 0, none⟩), .pointer (some ⟨(es[i]!).q, 0, none⟩)] (by kernel_rfl) (fun w68 hp69 => same_at pok (j := i) (by omega) hp69) ?_
      refine QOPS.batch 1 {} [] [3, 24, 25, 43] [.pointer (some ⟨g5, 0, none⟩), .int .i64 ((nS : Nat) : Int), .int .i64 (i : Int), .bool false] hnehp62 (fun w70 hp71 => QB.mk .nil (by kernel_rfl)) (fun b72 => ?_)
      refine QOPS.nil (fun w73 hp74 => ?_)
      refine thn_n ?_
      refine WP.condF rfl ?_
      refine WP.skip ?_
      refine blk_n ?_
      refine thn_n ?_
      refine WP.pure {} [] [3, 24, 25] [.pointer (some ⟨g5, 0, none⟩), .int .i64 ((nS : Nat) : Int), .int .i64 ((i : Int) + 1)] (.cons (show Rng .i64 ((i : Int) + 1) from Rng.i64 (by omega)) .nil) (by kernel_rfl) (fun b75 => ?_)
      refine thn_n ?_
      exact ⟨es.length - (i + 1), (by omega), i + 1, rfl, (by omega), by kernel_rfl, hp74⟩
    · refine WP.exit ?_
      refine thn_x ?_
      refine thn_x ?_
      refine blk_hit ?_
      refine thn_n ?_
      refine WP.seq ?_
      refine WP.region _ rfl (by kernel_rfl) ?_
      refine OPS.cons (opStep.call (some 45) [] (by kernel_rfl) (q_taken _) ?_)
      rintro _ w78 ⟨rfl, hf79⟩
      refine ⟨_, rfl, ?_⟩
      have hp80 := hp53.step hf79
      refine OPS.batch 1 {} [] [2] [.bool true] .nil (by kernel_rfl) (fun b81 => ?_)
      refine OPS.nil ?_
      refine thn_n ?_
      refine WP.ret ?_
      refine bodyQ.of _ rfl [.bool true] ⟨rfl, trivial⟩ ?_
      exact ⟨rfl, hp80.fr⟩

end Go.Proofs.Ythdkbbpiaeaojaa.K
