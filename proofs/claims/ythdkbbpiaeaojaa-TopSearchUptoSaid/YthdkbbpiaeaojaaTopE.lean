/- The walks of TopE: what each function computes. -/
import Derived.Test.YthdkbbpiaeaojaaProg
import Derived.Test.YthdkbbpiaeaojaaCoreO
import Derived.Test.YthdkbbpiaeaojaaTopC
import Derived.Test.YthdkbbpiaeaojaaCoreT
import Derived.Test.YthdkbbpiaeaojaaCoreV
namespace Go.Proofs.Ythdkbbpiaeaojaa.K
open Go Go.Proofs Go.RowKit
set_option linter.unusedVariables false
set_option linter.unusedSimpArgs false
set_option maxRecDepth 20000
set_option maxHeartbeats 4000000

theorem top_own (s : SlH) (w : World) (hs : VB w s) (hb : s.n ≤ 1048576) :
    Calls Try.prog 98 #[.slice s.a s.n s.c] w (fun x w' => ∃ (ao : Option Addr) (no co : Nat), x = .returned (.slice ao no co) ∧ no = s.n ∧ Hp w Non [Res.own 5 1 (.slice ao no co) no (List.flatMap u8c (bytesAt w s))] w') := by
  refine calls_of Try.func98 rfl 5 rfl (by simp) ?_
  have hp0 := Hp.init w
  have he0 : List.map (env0 [.slice s.a s.n s.c]) [0] = [.slice s.a s.n s.c] := by kernel_rfl
  obtain ⟨b0, he0⟩ := toMk he0
  rw [he0]
  clear he0
  refine WP.seq ?_
  refine WP.pure {} [] [0] [.slice s.a s.n s.c] .nil (by kernel_rfl) (fun b1 => ?_)
  refine thn_n ?_
  refine WP.seq ?_
  refine WP.region _ rfl (by kernel_rfl) ?_
  refine OPS.batch 1 {} [] [3] [.slice s.a s.n s.c] .nil (by kernel_rfl) (fun b2 => ?_)
  have hp6 := (hp0.nilOwn 5 1)
  rw [show ([] : List Go.Value) = List.flatMap u8c ([] : List Int) from rfl] at hp6
  refine OPS.cons (opStep.appendS (A := []) hp6 1 (by kernel_rfl) rfl rfl (SlR.at hs hp6) (flat_n (fun _ => rfl) (bytesAt_len _ _)) (one_flat (fun _ => rfl)) (by decide) (by omega) (by omega) (fun a7 c8 w9 hp10 => ?_))
  rw [show List.flatMap u8c ([] : List Int) ++ List.flatMap u8c (bytesAt w s) = List.flatMap u8c (([] : List Int) ++ (bytesAt w s)) from List.flatMap_append.symm] at hp10
  simp only [List.cons_append, List.nil_append] at hp10
  refine OPS.batch 1 {} [] [2] [.slice a7 (0 + s.n) c8] .nil (by kernel_rfl) (fun b11 => ?_)
  refine OPS.nil ?_
  refine thn_n ?_
  refine WP.ret ?_
  refine bodyQ.of _ rfl [.slice a7 (0 + s.n) c8] ⟨rfl, trivial⟩ ?_
  exact ⟨a7, 0 + s.n, c8, rfl, by omega, hp10⟩

theorem top_own_at {w0 w : World} (hf : Fram Non w0 w) {s : SlH} (hs : VB w0 s) (hb : s.n ≤ 1048576) :
    Calls Try.prog 98 #[s.v] w (fun x w' => ∃ (ao : Option Addr) (no co : Nat), x = .returned (.slice ao no co) ∧ no = s.n ∧ Hp w Non [Res.own 5 1 (.slice ao no co) no (List.flatMap u8c (bytesAt w0 s))] w') := by
  have := top_own s w (hs.step hf).1 hb
  rw [hs.fram hf] at this
  exact this
theorem SimC.symm {val val' : SlH → ByteArray} {l l' : List GCall} (s : SimC val l val' l') : SimC val' l' val l :=
  ⟨s.len.symm, fun i h => (s.put i (by rw [s.len]; exact h)).symm, fun i h => (s.opn i (by rw [s.len]; exact h)).symm, fun i h => (s.frm i (by rw [s.len]; exact h)).symm, fun i h => (s.to i (by rw [s.len]; exact h)).symm, fun i h => (s.status i (by rw [s.len]; exact h)).symm, fun i j h k => (s.vals i j (by rw [s.len]; exact h) (by rw [s.len]; exact k)).symm⟩

theorem top_ownCalls (l : List GCall) (n : Nat) (hn : l.length = n) (a : Option Addr) (cp : Nat) (w : World) (hs : SlR w a n (l.flatMap GCall.cells)) (hv : ∀ x ∈ l, VB w x.Value) (hvn : ∀ x ∈ l, x.Value.n ≤ 1048576) (hll : l.length ≤ 1048576) :
    Calls Try.prog 52 #[.slice a n cp] w (fun x w' => ∃ (ao : Option Addr) (no co : Nat) (cl : List GCall) (F : Nat → Prop) (vs : List ByteArray), x = .returned (.slice ao no co) ∧ cpO w l cl vs l.length ∧ Hp w Non [Res.own 41 11 (.slice ao no co) no (List.flatMap GCall.cells cl), Res.vl F cl vs] w') := by
  refine calls_of Try.func52 rfl 22 rfl (by simp) ?_
  have hp0 := Hp.init w
  have he0 : List.map (env0 [.slice a n cp]) [0] = [.slice a n cp] := by kernel_rfl
  obtain ⟨b0, he0⟩ := toMk he0
  rw [he0]
  clear he0
  refine WP.seq ?_
  refine WP.pure {} [] [0] [.slice a n cp] .nil (by kernel_rfl) (fun b1 => ?_)
  refine thn_n ?_
  refine WP.seq ?_
  refine WP.pure {} [] [0, 3] [.slice a n cp, .slice none 0 0] .nil (by kernel_rfl) (fun b2 => ?_)
  refine thn_n ?_
  refine WP.seq ?_
  refine WP.seq ?_
  refine WP.pure {} [] [3, 6, 7, 8] [.slice none 0 0, .slice a n cp, .int .i64 ((n : Nat) : Int), .int .i64 0] .nil (by kernel_rfl) (fun b3 => ?_)
  refine thn_n ?_
  refine WP.block ?_
  have hp4 := hp0.vlNil
  have hp5 := hp4.nilOwn 41 11
  rw [show ([] : List Go.Value) = List.flatMap GCall.cells ([] : List GCall) from rfl] at hp5
  refine WP.loop (fun mz_ e6 w7 => ∃ (k : Nat) (cl : List GCall) (vs : List ByteArray) (F : Nat → Prop) (ao : Option Addr) (no : Nat) (co : Nat), mz_ = l.length - k ∧ (k ≤ l.length ∧ cpO w l cl vs k) ∧ List.map e6 [3, 6, 7, 8] = [.slice ao no co, .slice a n cp, .int .i64 ((n : Nat) : Int), .int .i64 (k : Int)] ∧ Hp w Non [Res.own 41 11 (.slice ao no co) no (List.flatMap GCall.cells cl), Res.vl F cl vs] w7) (l.length - (0)) ⟨0, [], [], fun _ => False, none, 0, 0, rfl, ⟨by omega, rfl, rfl, fun i hi => by omega⟩, by kernel_rfl, hp5⟩ ?_
  rintro _ e6 w7 ⟨k, cl, vs, F, ao, no, co, rfl, hI9, hE10, hp8⟩
  obtain ⟨b11, rfl⟩ := toMk hE10
  clear hE10
  obtain ⟨pa, pb⟩ := hI9
  have pd := pb.1
  have pe := own_flat (sz := 11) (fun _ => rfl) (by decide) hp8.get0
  refine WP.seq ?_
  refine WP.pure {} [] [3, 6, 7, 8, 9] [.slice ao no co, .slice a n cp, .int .i64 ((n : Nat) : Int), .int .i64 (k : Int), .bool (decide ((k : Int) < ((n : Nat) : Int)))] .nil (by kernel_rfl) (fun b12 => ?_)
  refine thn_n ?_
  refine WP.seq ?_
  refine WP.test (p := (k : Int) < ((n : Nat) : Int)) rfl Bp.dec (fun h13 => ?_) (fun h13 => ?_)
  · refine WP.skip ?_
    refine thn_n ?_
    refine WP.seq ?_
    refine WP.block ?_
    refine WP.seq ?_
    refine WP.region _ rfl (by kernel_rfl) ?_
    have hy17 : (l)[k]? = some l[k]! := get_bang (by first | (omega) | (simp only [List.length_append, List.length_cons, List.length_nil]; omega) | (simp only [List.length_take, List.length_append, List.length_cons, List.length_nil]; omega))
    refine OPS.batch 2 {} [GCall.val (l[k]!)] [3, 6, 7, 8, 11] [.slice ao no co, .slice a n cp, .int .i64 ((n : Nat) : Int), .int .i64 (k : Int), GCall.val (l[k]!)] (.cons (show InB ((k : Int)) (n) from ⟨by omega, by omega⟩) (.cons ((hs.at hp8).some (by omega)) (.cons (Ld.add0 (Ld.elN (P := Try.prog) (t := 41) (hs.at hp8).rd 11 (fun _ => rfl) hy17 (o := 0) (cs := [.int .i64 (l[k]!.Client), .int .i64 (l[k]!.Op), .bool (l[k]!.Put), .string (l[k]!.Key), .slice (l[k]!.Value.a) (l[k]!.Value.n) (l[k]!.Value.c), .int .i64 (l[k]!.Status), .int .i64 (l[k]!.From), .int .i64 (l[k]!.To), .bool (l[k]!.Open), .int .i64 (l[k]!.Tag.Count), .int .i64 (l[k]!.Tag.Client)]) (by kernel_rfl))) .nil))) (by kernel_rfl) (fun b18 => ?_)
    refine OPS.cons (opStep.alloc hp8 [.int .i64 0, .int .i64 0, .bool false, .string ByteArray.empty, .slice none 0 0, .int .i64 0, .int .i64 0, .int .i64 0, .bool false, .int .i64 0, .int .i64 0] (by kernel_rfl) (fun g21 w19 hp20 => ?_))
    refine OPS.cons (opStep.store0 hp20 rfl [.int .i64 (l[k]!.Client), .int .i64 (l[k]!.Op), .bool (l[k]!.Put), .string (l[k]!.Key), .slice (l[k]!.Value.a) (l[k]!.Value.n) (l[k]!.Value.c), .int .i64 (l[k]!.Status), .int .i64 (l[k]!.From), .int .i64 (l[k]!.To), .bool (l[k]!.Open), .int .i64 (l[k]!.Tag.Count), .int .i64 (l[k]!.Tag.Client)] [.int .i64 (l[k]!.Client), .int .i64 (l[k]!.Op), .bool (l[k]!.Put), .string (l[k]!.Key), .slice (l[k]!.Value.a) (l[k]!.Value.n) (l[k]!.Value.c), .int .i64 (l[k]!.Status), .int .i64 (l[k]!.From), .int .i64 (l[k]!.To), .bool (l[k]!.Open), .int .i64 (l[k]!.Tag.Count), .int .i64 (l[k]!.Tag.Client)] (by kernel_rfl) (fun w22 hp23 => ?_))
    refine OPS.nil ?_
    refine thn_n ?_
    refine WP.seq ?_
    refine WP.region _ rfl (by kernel_rfl) ?_
    refine OPS.batch 2 {} [.slice (l[k]!.Value.a) (l[k]!.Value.n) (l[k]!.Value.c)] [3, 5, 6, 7, 8, 13] [.slice ao no co, .pointer (some ⟨g21, 0, none⟩), .slice a n cp, .int .i64 ((n : Nat) : Int), .int .i64 (k : Int), .slice (l[k]!.Value.a) (l[k]!.Value.n) (l[k]!.Value.c)] (.cons (Ld.row1 (P := Try.prog) (t := 39) (o := 4) (v := .slice (l[k]!.Value.a) (l[k]!.Value.n) (l[k]!.Value.c)) hp23.get0 (by kernel_rfl)) .nil) (by kernel_rfl) (fun b24 => ?_)
    refine OPS.cons (opStep.call (some 14) [.slice (l[k]!.Value.a) (l[k]!.Value.n) (l[k]!.Value.c)] (by kernel_rfl) (top_own_at hp23.fr (hv l[k]! (List.mem_of_getElem? hy17)) (hvn _ (List.mem_of_getElem? (get_bang (l := l) (i := k) (by omega))))) ?_)
    rintro _ w30 ⟨ao27, no28, co29, rfl, hno33, hn32⟩
    refine ⟨_, rfl, ?_⟩
    have hp31 := hp23.made hn32
    refine OPS.batch 1 {} [] [3, 5, 6, 7, 8, 14, 15] [.slice ao no co, .pointer (some ⟨g21, 0, none⟩), .slice a n cp, .int .i64 ((n : Nat) : Int), .int .i64 (k : Int), .slice ao27 no28 co29, .pointer (some ⟨g21, 4, none⟩)] .nil (by kernel_rfl) (fun b34 => ?_)
    refine OPS.cons (opStep.store1 hp31 rfl [.slice ao27 no28 co29] [.int .i64 (l[k]!.Client), .int .i64 (l[k]!.Op), .bool (l[k]!.Put), .string (l[k]!.Key), .slice ao27 no28 co29, .int .i64 (l[k]!.Status), .int .i64 (l[k]!.From), .int .i64 (l[k]!.To), .bool (l[k]!.Open), .int .i64 (l[k]!.Tag.Count), .int .i64 (l[k]!.Tag.Client)] (by kernel_rfl) (fun w35 hp36 => ?_))
    refine OPS.nil ?_
    refine thn_n ?_
    refine WP.region _ rfl (by kernel_rfl) ?_
    refine OPS.batch 2 {} [.agg #[.int .i64 (l[k]!.Client), .int .i64 (l[k]!.Op), .bool (l[k]!.Put), .string (l[k]!.Key), .slice ao27 no28 co29, .int .i64 (l[k]!.Status), .int .i64 (l[k]!.From), .int .i64 (l[k]!.To), .bool (l[k]!.Open), .int .i64 (l[k]!.Tag.Count), .int .i64 (l[k]!.Tag.Client)]] [6, 7, 8, 16, 17] [.slice a n cp, .int .i64 ((n : Nat) : Int), .int .i64 (k : Int), .slice ao no co, .agg #[.int .i64 (l[k]!.Client), .int .i64 (l[k]!.Op), .bool (l[k]!.Put), .string (l[k]!.Key), .slice ao27 no28 co29, .int .i64 (l[k]!.Status), .int .i64 (l[k]!.From), .int .i64 (l[k]!.To), .bool (l[k]!.Open), .int .i64 (l[k]!.Tag.Count), .int .i64 (l[k]!.Tag.Client)]] (.cons (show Ld Try.prog w35 41 ⟨g21, 0, none⟩ (.agg #[.int .i64 (l[k]!.Client), .int .i64 (l[k]!.Op), .bool (l[k]!.Put), .string (l[k]!.Key), .slice ao27 no28 co29, .int .i64 (l[k]!.Status), .int .i64 (l[k]!.From), .int .i64 (l[k]!.To), .bool (l[k]!.Open), .int .i64 (l[k]!.Tag.Count), .int .i64 (l[k]!.Tag.Client)]) from Ld.rowN (cs := [.int .i64 (l[k]!.Client), .int .i64 (l[k]!.Op), .bool (l[k]!.Put), .string (l[k]!.Key), .slice ao27 no28 co29, .int .i64 (l[k]!.Status), .int .i64 (l[k]!.From), .int .i64 (l[k]!.To), .bool (l[k]!.Open), .int .i64 (l[k]!.Tag.Count), .int .i64 (l[k]!.Tag.Client)]) hp36.get1 (by kernel_rfl)) .nil) (by kernel_rfl) (fun b37 => ?_)
    refine OPS.cons (opStep.buildSlice (E := 41) hp36 [.int .i64 (l[k]!.Client), .int .i64 (l[k]!.Op), .bool (l[k]!.Put), .string (l[k]!.Key), .slice ao27 no28 co29, .int .i64 (l[k]!.Status), .int .i64 (l[k]!.From), .int .i64 (l[k]!.To), .bool (l[k]!.Open), .int .i64 (l[k]!.Tag.Count), .int .i64 (l[k]!.Tag.Client)] (by kernel_rfl) (fun g40 w38 hp39 => ?_))
    refine OPS.cons (opStep.append3 [.int .i64 (l[k]!.Client), .int .i64 (l[k]!.Op), .bool (l[k]!.Put), .string (l[k]!.Key), .slice ao27 no28 co29, .int .i64 (l[k]!.Status), .int .i64 (l[k]!.From), .int .i64 (l[k]!.To), .bool (l[k]!.Open), .int .i64 (l[k]!.Tag.Count), .int .i64 (l[k]!.Tag.Client)] hp39 112 (by kernel_rfl) rfl rfl rfl (SlR.row (n := 1) hp39.get0 rfl).rd (List.all_eq_true.1 (by kernel_rfl)) (by decide) (by omega) (by omega) (fun a43 c44 w45 hp46 hn47 => ?_))
    rw [(show List.flatMap GCall.cells cl ++ [.int .i64 (l[k]!.Client), .int .i64 (l[k]!.Op), .bool (l[k]!.Put), .string (l[k]!.Key), .slice ao27 no28 co29, .int .i64 (l[k]!.Status), .int .i64 (l[k]!.From), .int .i64 (l[k]!.To), .bool (l[k]!.Open), .int .i64 (l[k]!.Tag.Count), .int .i64 (l[k]!.Tag.Client)] = List.flatMap GCall.cells (cl ++ [(⟨l[k]!.Client, l[k]!.Op, l[k]!.Put, l[k]!.Key, ⟨ao27, no28, co29⟩, l[k]!.Status, l[k]!.From, l[k]!.To, l[k]!.Open, (⟨l[k]!.Tag.Count, l[k]!.Tag.Client⟩ : GTag)⟩ : GCall)]) from (List.flatMap_append (xs := cl) (ys := [(⟨l[k]!.Client, l[k]!.Op, l[k]!.Put, l[k]!.Key, ⟨ao27, no28, co29⟩, l[k]!.Status, l[k]!.From, l[k]!.To, l[k]!.Open, (⟨l[k]!.Tag.Count, l[k]!.Tag.Client⟩ : GTag)⟩ : GCall)])).symm)] at hp46
    refine OPS.batch 1 {} [] [3, 6, 7, 8] [.slice a43 (no + 1) c44, .slice a n cp, .int .i64 ((n : Nat) : Int), .int .i64 (k : Int)] .nil (by kernel_rfl) (fun b48 => ?_)
    refine OPS.nil ?_
    refine blk_n ?_
    refine thn_n ?_
    refine WP.pure {} [] [3, 6, 7, 8] [.slice a43 (no + 1) c44, .slice a n cp, .int .i64 ((n : Nat) : Int), .int .i64 ((k : Int) + 1)] (.cons (show Rng .i64 ((k : Int) + 1) from Rng.i64 (by omega)) .nil) (by kernel_rfl) (fun b49 => ?_)
    refine thn_n ?_
    have hp50 := hp46.pull4
    have hp51 := hp50.pull2
    have hp52 := hp51.vlPushOwn (⟨l[k]!.Client, l[k]!.Op, l[k]!.Put, l[k]!.Key, ⟨ao27, no28, co29⟩, l[k]!.Status, l[k]!.From, l[k]!.To, l[k]!.Open, (⟨l[k]!.Tag.Count, l[k]!.Tag.Client⟩ : GTag)⟩ : GCall) rfl
    exact ⟨l.length - (k + 1), (by omega), k + 1, cl ++ [(⟨l[k]!.Client, l[k]!.Op, l[k]!.Put, l[k]!.Key, ⟨ao27, no28, co29⟩, l[k]!.Status, l[k]!.From, l[k]!.To, l[k]!.Open, (⟨l[k]!.Tag.Count, l[k]!.Tag.Client⟩ : GTag)⟩ : GCall)], vs ++ [strOf (bytesAt w l[k]!.Value)], fun k_ => F k_ ∨ (Value.slice ao27 no28 co29).ownBlock = some k_, a43, no + 1, c44, rfl, ⟨by omega, cpO_step pb ⟨_, rfl⟩ rfl⟩, by kernel_rfl, (((hp52.pull0).pull3).sub (.cons_cons _ (.cons_cons _ (.cons _ (.cons _ (.slnil))))))⟩
  · refine WP.exit ?_
    refine thn_x ?_
    refine thn_x ?_
    refine blk_hit ?_
    refine thn_n ?_
    refine WP.seq ?_
    refine WP.pure {} [] [2] [.slice ao no co] .nil (by kernel_rfl) (fun b53 => ?_)
    refine thn_n ?_
    refine WP.ret ?_
    refine bodyQ.of _ rfl [.slice ao no co] ⟨rfl, trivial⟩ ?_
    have hk_ : k = l.length := by omega
    rw [hk_] at pb
    exact ⟨_, _, _, _, _, _, rfl, pb, hp8⟩

theorem top_explained (l : List GCall) (n : Nat) (hn : l.length = n) (a : Option Addr) (cp : Nat) (w : World) (hs : SlR w a n (l.flatMap GCall.cells)) (hv : ∀ x ∈ l, VB w x.Value) (hr : ByR w l) (hvn : ∀ x ∈ l, x.Value.n ≤ 1048576) (hll : l.length ≤ 1048576) :
    Calls Try.prog 54 #[.slice a n cp] w (fun r_ w' => ∃ f_, r_ = .returned (.bool f_) ∧ Bp f_ (∃ p, PathA (valAt w) l [] p) ∧ Fram Non w w') := by
  refine calls_of Try.func54 rfl 9 rfl (by simp) ?_
  have hp0 := Hp.init w
  have he0 : List.map (env0 [.slice a n cp]) [0] = [.slice a n cp] := by kernel_rfl
  obtain ⟨b0, he0⟩ := toMk he0
  rw [he0]
  clear he0
  refine WP.seq ?_
  refine WP.pure {} [] [0] [.slice a n cp] .nil (by kernel_rfl) (fun b1 => ?_)
  refine thn_n ?_
  refine WP.seq ?_
  refine WP.region _ rfl (by kernel_rfl) ?_
  refine OPS.batch 3 {} [] [3, 5] [.slice a n cp, .int .i64 ((n : Nat) : Int)] .nil (by kernel_rfl) (fun b2 => ?_)
  refine OPS.cons (opStep.makeSlice (f := fun (y : Bool) => [Go.Value.bool y]) (E := 4) (sz := 1) (bytes := 1) (n := n) false hp0 (by kernel_rfl) (by decide) (by kernel_rfl) (by omega) (by unfold maxLen; omega) (fun g5 w3 hp4 => ?_))
  refine OPS.cons (opStep.makeMapK kS vB hp4 (fun g8 w6 hp7 => ?_))
  have hp11 := hp7.pull0
  have hp12 := hp11.pull1
  refine OPS.cons (opStep.call (some 8) [.slice a n cp, .slice (some ⟨g5, 0, none⟩) n n, .int .i64 (-1), .map (some g8)] (by kernel_rfl) (top_found w l n hn a cp hs hv hr hvn hll (some ⟨g5, 0, none⟩) n n g8 _ _ (List.replicate n false) [] ([] : List (ByteArray × Bool)) _ (by rw [← hn]; exact ins_nil l) vain_nil hp12 (Nat.le_refl _)) ?_)
  rintro _ w13 ⟨b15, vn16, rfl, hb17, hq18, hp14⟩
  refine ⟨_, rfl, ?_⟩
  refine OPS.batch 1 {} [] [2] [.bool b15] .nil (by kernel_rfl) (fun b19 => ?_)
  refine OPS.nil ?_
  refine thn_n ?_
  refine WP.ret ?_
  refine bodyQ.of _ rfl [.bool b15] ⟨rfl, trivial⟩ ?_
  exact ⟨_, rfl, (show Bp b15 (∃ p, PathA (valAt w) l [] p) from hb17), hp14.fr⟩

end Go.Proofs.Ythdkbbpiaeaojaa.K
