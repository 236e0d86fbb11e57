/- The walks of ReoI: what each function computes. -/
import Derived.Test.YtdahgdkadfdkeaaProg
import Derived.Test.YtdahgdkadfdkeaaCoreO
import Derived.Test.YtdahgdkadfdkeaaReoH
import Derived.Test.YtdahgdkadfdkeaaReoG
import Derived.Test.YtdahgdkadfdkeaaCoreQ
import Derived.Test.YtdahgdkadfdkeaaCoreU
namespace Go.Proofs.Ytdahgdkadfdkeaa.K
open Go Go.Proofs Go.RowKit
set_option linter.unusedVariables false
set_option linter.unusedSimpArgs false
set_option maxRecDepth 20000
set_option maxHeartbeats 4000000

theorem l21_wide (s : SlH) (w : World) (hv : VB w s) (hn : s.n ≤ 140737488351232) :
    Calls Try.prog 69 #[.slice s.a s.n s.c] w (fun r_ w' => ∃ ao co, r_ = .returned (.slice ao s.n co) ∧ Hp w Non [Res.own 5 1 (.slice ao (s.n + 2) co) (s.n + 2) ((bytesAt w s ++ [193, 194]).flatMap u8c)] w') := by
  refine calls_of Try.func69 rfl 14 rfl (by simp) ?_
  have hp0 := Hp.init w
  have he0 : List.map (env0 [.slice s.a s.n s.c]) [0] = [.slice s.a s.n s.c] := by kernel_rfl
  obtain ⟨b0, he0⟩ := toMk he0
  rw [he0]
  clear he0
  refine WP.seq ?_
  refine WP.pure {} [] [0] [.slice s.a s.n s.c] .nil (by kernel_rfl) (fun b1 => ?_)
  refine thn_n ?_
  refine WP.seq ?_
  refine WP.pure {} [] [0, 3] [.slice s.a s.n s.c, .slice none 0 0] .nil (by kernel_rfl) (fun b2 => ?_)
  refine thn_n ?_
  refine WP.seq ?_
  refine WP.region _ rfl (by kernel_rfl) ?_
  refine OPS.batch 2 {} [] [0, 4, 5] [.slice s.a s.n s.c, .slice none 0 0, .slice s.a s.n s.c] .nil (by kernel_rfl) (fun b3 => ?_)
  have hp7 := (show Hp w Non [Res.own 5 1 (.slice none 0 0) 0 (List.flatMap u8c ([] : List Int))] w from hp0.nilOwn 5 1)
  refine OPS.cons (opStep.appendS (A := []) hp7 1 (by kernel_rfl) rfl rfl (SlR.at hv hp7) (flat_n (fun _ => rfl) (bytesAt_len _ _)) (one_flat (fun _ => rfl)) (by decide) (by omega) (by omega) (fun a8 c9 w10 hp11 => ?_))
  rw [show List.flatMap u8c ([] : List Int) ++ List.flatMap u8c (bytesAt w s) = List.flatMap u8c (bytesAt w s) from rfl] at hp11
  simp only [List.cons_append, List.nil_append] at hp11
  refine OPS.batch 1 {} [] [0, 3] [.slice s.a s.n s.c, .slice a8 (0 + s.n) c9] .nil (by kernel_rfl) (fun b12 => ?_)
  refine OPS.nil ?_
  refine thn_n ?_
  refine WP.seq ?_
  refine WP.region _ rfl (by kernel_rfl) ?_
  refine OPS.batch 1 {} [] [0, 7] [.slice s.a s.n s.c, .slice a8 (0 + s.n) c9] .nil (by kernel_rfl) (fun b13 => ?_)
  refine OPS.cons (opStep.buildSlice (E := 5) hp11 [.int .u8 193, .int .u8 194] (by kernel_rfl) (fun g16 w14 hp15 => ?_))
  refine OPS.cons (opStep.append1 [.int .u8 193, .int .u8 194] hp15 1 (by kernel_rfl) rfl rfl rfl (SlR.row (n := 2) hp15.get0 rfl).rd (List.all_eq_true.1 (by kernel_rfl)) (by decide) (by omega) (by omega) (fun a19 c20 w21 hp22 hn23 => ?_))
  rw [(show List.flatMap u8c (bytesAt w s) ++ [.int .u8 193, .int .u8 194] = List.flatMap u8c ((bytesAt w s) ++ [193, 194]) from (List.flatMap_append (xs := bytesAt w s) (ys := [193, 194])).symm)] at hp22
  refine OPS.batch 1 {} [] [0, 3] [.slice s.a s.n s.c, .slice a19 (0 + s.n + 2) c20] .nil (by kernel_rfl) (fun b24 => ?_)
  refine OPS.nil ?_
  refine thn_n ?_
  refine WP.seq ?_
  have := own_cap hp22.get1
  refine WP.pure {} [] [2] [.slice a19 s.n c20] (.cons (show (0 : Int) ≤ ((s.n : Nat) : Int) ∧ ((s.n : Nat) : Int) ≤ ((c20 : Nat) : Int) from ⟨by omega, by omega⟩) .nil) (by kernel_rfl) (fun b25 => ?_)
  refine thn_n ?_
  refine WP.ret ?_
  refine bodyQ.of _ rfl [.slice a19 s.n c20] ⟨rfl, trivial⟩ ?_
  have e_ : 0 + s.n + 2 = s.n + 2 := by omega
  have h_ := (hp22.sub (.cons _ (.cons_cons _ (.slnil))))
  rw [e_] at h_
  exact ⟨_, _, rfl, h_⟩

theorem l21_ints (o : List Int) (ao : Option Addr) (no co : Nat) (hno : no = o.length) (hbo : o.length ≤ 1048576) (w : World) (hso : SlR w ao no (List.flatMap (fun (y : Int) => [Go.Value.int .i64 y]) o)) :
    Calls Try.prog 27 #[.slice ao no co] w (fun r_ w' => ∃ a2 c2, r_ = .returned (.slice a2 no c2) ∧ Hp w Non [Res.own 3 1 (.slice a2 (no + 1) c2) (no + 1) (List.flatMap (fun (y : Int) => [Go.Value.int .i64 y]) (o ++ [-77]))] w') := by
  refine calls_of Try.func27 rfl 13 rfl (by simp) ?_
  have hp0 := Hp.init w
  have he0 : List.map (env0 [.slice ao no co]) [0] = [.slice ao no co] := by kernel_rfl
  obtain ⟨b0, he0⟩ := toMk he0
  rw [he0]
  clear he0
  refine WP.seq ?_
  refine WP.pure {} [] [0] [.slice ao no co] .nil (by kernel_rfl) (fun b1 => ?_)
  refine thn_n ?_
  refine WP.seq ?_
  refine WP.pure {} [] [0, 3] [.slice ao no co, .slice none 0 0] .nil (by kernel_rfl) (fun b2 => ?_)
  refine thn_n ?_
  refine WP.seq ?_
  refine WP.region _ rfl (by kernel_rfl) ?_
  refine OPS.batch 2 {} [] [0, 4, 5] [.slice ao no co, .slice none 0 0, .slice ao no co] .nil (by kernel_rfl) (fun b3 => ?_)
  have hp7 := (show Hp w Non [Res.own 3 1 (.slice none 0 0) 0 (List.flatMap (fun (y : Int) => [Go.Value.int .i64 y]) ([] : List Int))] w from hp0.nilOwn 3 1)
  refine OPS.cons (opStep.appendS (A := []) hp7 8 (by kernel_rfl) rfl rfl (hso.at hp7) (flat_n (fun _ => rfl) (by first | rfl | omega)) (one_flat (fun _ => rfl)) (by decide) (by omega) (by omega) (fun a8 c9 w10 hp11 => ?_))
  rw [show List.flatMap (fun (y : Int) => [Go.Value.int .i64 y]) ([] : List Int) ++ List.flatMap (fun (y : Int) => [Go.Value.int .i64 y]) o = List.flatMap (fun (y : Int) => [Go.Value.int .i64 y]) (o) from rfl] at hp11
  simp only [List.cons_append, List.nil_append] at hp11
  refine OPS.batch 1 {} [] [0, 3] [.slice ao no co, .slice a8 (0 + no) c9] .nil (by kernel_rfl) (fun b12 => ?_)
  refine OPS.nil ?_
  refine thn_n ?_
  refine WP.seq ?_
  refine WP.region _ rfl (by kernel_rfl) ?_
  refine OPS.batch 1 {} [] [0, 7] [.slice ao no co, .slice a8 (0 + no) c9] .nil (by kernel_rfl) (fun b13 => ?_)
  refine OPS.cons (opStep.buildSlice (E := 3) hp11 [.int .i64 (-77)] (by kernel_rfl) (fun g16 w14 hp15 => ?_))
  refine OPS.cons (opStep.append1 [.int .i64 (-77)] hp15 8 (by kernel_rfl) rfl rfl rfl (SlR.row (n := 1) hp15.get0 rfl).rd (List.all_eq_true.1 (by kernel_rfl)) (by decide) (by omega) (by omega) (fun a19 c20 w21 hp22 hn23 => ?_))
  rw [(show List.flatMap (fun (y : Int) => [Go.Value.int .i64 y]) o ++ [.int .i64 (-77)] = List.flatMap (fun (y : Int) => [Go.Value.int .i64 y]) (o ++ [(-77)]) from (List.flatMap_append (xs := o) (ys := [(-77)])).symm)] at hp22
  have := own_cap hp22.get1
  refine OPS.batch 4 {} [] [2] [.slice a19 no c20] (.cons (show (0 : Int) ≤ ((no : Nat) : Int) ∧ ((no : Nat) : Int) ≤ ((c20 : Nat) : Int) from ⟨by omega, by omega⟩) .nil) (by kernel_rfl) (fun b24 => ?_)
  refine OPS.nil ?_
  refine thn_n ?_
  refine WP.ret ?_
  refine bodyQ.of _ rfl [.slice a19 no c20] ⟨rfl, trivial⟩ ?_
  have e_ : 0 + no + 1 = no + 1 := by omega
  have h_ := (hp22.sub (.cons _ (.cons_cons _ (.slnil))))
  rw [e_] at h_
  exact ⟨_, _, rfl, h_⟩

theorem l21_calls (l : List GCall) (a : Option Addr) (n c : Nat) (w : World) (hn : n = l.length) (hb : l.length ≤ 8796093022207) (hs : SlR w a n (l.flatMap GCall.cells)) (hb2 : l.length ≤ 1048576) (hv : ∀ y ∈ l, VB w y.Value) (hvn : ∀ y ∈ l, y.Value.n ≤ 140737488351232) :
    Calls Try.prog 26 #[.slice a n c] w (fun r_ w' => ∃ ao co cl bs F x, r_ = .returned (.slice ao l.length co) ∧ cpC w l cl bs l.length ∧ x.Client = -77 ∧ Hp w Non [Res.own 73 11 (.slice ao (l.length + 1) co) (l.length + 1) (List.flatMap GCall.cells (cl ++ [x])), Res.vw F cl bs] w') := by
  refine calls_of Try.func26 rfl 31 rfl (by simp) ?_
  have hp0 := Hp.init w
  have he0 : List.map (env0 [.slice a n c]) [0] = [.slice a n c] := by kernel_rfl
  obtain ⟨b0, he0⟩ := toMk he0
  rw [he0]
  clear he0
  refine WP.seq ?_
  refine WP.pure {} [] [0] [.slice a n c] .nil (by kernel_rfl) (fun b1 => ?_)
  refine thn_n ?_
  refine WP.seq ?_
  refine WP.pure {} [] [0, 3] [.slice a n c, .slice none 0 0] .nil (by kernel_rfl) (fun b2 => ?_)
  refine thn_n ?_
  refine WP.seq ?_
  refine WP.seq ?_
  refine WP.pure {} [] [0, 3, 4] [.slice a n c, .slice none 0 0, .int .i64 0] .nil (by kernel_rfl) (fun b3 => ?_)
  refine thn_n ?_
  refine WP.block ?_
  have hp4 := hp0.vwNil
  have hp5 := hp4.nilOwn 73 11
  rw [show ([] : List Go.Value) = List.flatMap GCall.cells ([] : List GCall) from rfl] at hp5
  refine WP.loop (fun mz_ e6 w7 => ∃ (k : Nat) (cl : List GCall) (bs : List (List Int)) (F : Nat → Prop) (ao : Option Addr) (no : Nat) (co : Nat), mz_ = l.length - k ∧ (k ≤ l.length ∧ cpC w l cl bs k) ∧ List.map e6 [0, 3, 4] = [.slice a n c, .slice ao no co, .int .i64 (k : Int)] ∧ Hp w Non [Res.own 73 11 (.slice ao no co) no (List.flatMap GCall.cells cl), Res.vw F cl bs] w7) (l.length - (0)) ⟨0, [], [], fun _ => False, none, 0, 0, rfl, ⟨by omega, rfl, rfl, fun i hi => by omega⟩, by kernel_rfl, hp5⟩ ?_
  rintro _ e6 w7 ⟨k, cl, bs, F, ao, no, co, rfl, hI9, hE10, hp8⟩
  obtain ⟨b11, rfl⟩ := toMk hE10
  clear hE10
  obtain ⟨pa, pb⟩ := hI9
  have pd := pb.1
  have pe := own_flat (sz := 11) (fun _ => rfl) (by decide) hp8.get0
  refine WP.seq ?_
  refine WP.seq ?_
  refine WP.pure {} [] [0, 3, 4, 9] [.slice a n c, .slice ao no co, .int .i64 (k : Int), .bool (decide ((k : Int) < ((n : Nat) : Int)))] .nil (by kernel_rfl) (fun b12 => ?_)
  refine thn_n ?_
  refine WP.test (p := (k : Int) < ((n : Nat) : Int)) rfl Bp.dec (fun h13 => ?_) (fun h13 => ?_)
  · refine WP.skip ?_
    refine thn_n ?_
    refine WP.seq ?_
    refine WP.block ?_
    refine WP.seq ?_
    refine WP.region _ rfl (by kernel_rfl) ?_
    have hy17 : (l)[k]? = some l[k]! := get_bang (by first | (omega) | (simp only [List.length_append, List.length_cons, List.length_nil]; omega) | (simp only [List.length_take, List.length_append, List.length_cons, List.length_nil]; omega))
    refine OPS.batch 4 {} [GCall.val (l[k]!)] [0, 3, 4, 15] [.slice a n c, .slice ao no co, .int .i64 (k : Int), GCall.val (l[k]!)] (.cons (show InB ((k : Int)) (n) from ⟨by omega, by omega⟩) (.cons ((hs.at hp8).some (by omega)) (.cons (Ld.add0 (Ld.elN (P := Try.prog) (t := 73) (hs.at hp8).rd 11 (fun _ => rfl) hy17 (o := 0) (cs := [.int .i64 (l[k]!.Client), .int .i64 (l[k]!.Op), .bool (l[k]!.Put), .string (l[k]!.Key), .slice (l[k]!.Value.a) (l[k]!.Value.n) (l[k]!.Value.c), .int .i64 (l[k]!.Status), .int .i64 (l[k]!.From), .int .i64 (l[k]!.To), .bool (l[k]!.Open), .int .i64 (l[k]!.Tag.Count), .int .i64 (l[k]!.Tag.Client)]) (by kernel_rfl))) .nil))) (by kernel_rfl) (fun b18 => ?_)
    refine OPS.cons (opStep.alloc hp8 [.int .i64 0, .int .i64 0, .bool false, .string ByteArray.empty, .slice none 0 0, .int .i64 0, .int .i64 0, .int .i64 0, .bool false, .int .i64 0, .int .i64 0] (by kernel_rfl) (fun g21 w19 hp20 => ?_))
    refine OPS.cons (opStep.store0 hp20 rfl [.int .i64 (l[k]!.Client), .int .i64 (l[k]!.Op), .bool (l[k]!.Put), .string (l[k]!.Key), .slice (l[k]!.Value.a) (l[k]!.Value.n) (l[k]!.Value.c), .int .i64 (l[k]!.Status), .int .i64 (l[k]!.From), .int .i64 (l[k]!.To), .bool (l[k]!.Open), .int .i64 (l[k]!.Tag.Count), .int .i64 (l[k]!.Tag.Client)] [.int .i64 (l[k]!.Client), .int .i64 (l[k]!.Op), .bool (l[k]!.Put), .string (l[k]!.Key), .slice (l[k]!.Value.a) (l[k]!.Value.n) (l[k]!.Value.c), .int .i64 (l[k]!.Status), .int .i64 (l[k]!.From), .int .i64 (l[k]!.To), .bool (l[k]!.Open), .int .i64 (l[k]!.Tag.Count), .int .i64 (l[k]!.Tag.Client)] (by kernel_rfl) (fun w22 hp23 => ?_))
    refine OPS.nil ?_
    refine thn_n ?_
    refine WP.seq ?_
    refine WP.region _ rfl (by kernel_rfl) ?_
    refine OPS.batch 2 {} [.slice (l[k]!.Value.a) (l[k]!.Value.n) (l[k]!.Value.c)] [0, 3, 4, 5, 17] [.slice a n c, .slice ao no co, .int .i64 (k : Int), .pointer (some ⟨g21, 0, none⟩), .slice (l[k]!.Value.a) (l[k]!.Value.n) (l[k]!.Value.c)] (.cons (Ld.row1 (P := Try.prog) (t := 71) (o := 4) (v := .slice (l[k]!.Value.a) (l[k]!.Value.n) (l[k]!.Value.c)) hp23.get0 (by kernel_rfl)) .nil) (by kernel_rfl) (fun b24 => ?_)
    refine OPS.cons (opStep.call (some 18) [.slice (l[k]!.Value.a) (l[k]!.Value.n) (l[k]!.Value.c)] (by kernel_rfl) (l21_wide (l[k]!.Value) _ (VB.at' (hv l[k]! (List.mem_of_getElem? hy17)) hp23.fr) (by exact hvn _ (List.mem_of_getElem? (get_bang (by omega))))) ?_)
    rintro _ w27 ⟨a29, c31, rfl, hp28⟩
    rw [VB.fram (hv l[k]! (List.mem_of_getElem? hy17)) hp23.fr] at hp28
    refine ⟨_, rfl, ?_⟩
    have hp33 := hp23.made hp28
    refine OPS.batch 1 {} [] [0, 3, 4, 5, 18, 19] [.slice a n c, .slice ao no co, .int .i64 (k : Int), .pointer (some ⟨g21, 0, none⟩), .slice a29 (l[k]!.Value.n) c31, .pointer (some ⟨g21, 4, none⟩)] .nil (by kernel_rfl) (fun b34 => ?_)
    refine OPS.cons (opStep.store1 hp33 rfl [.slice a29 (l[k]!.Value.n) c31] [.int .i64 (l[k]!.Client), .int .i64 (l[k]!.Op), .bool (l[k]!.Put), .string (l[k]!.Key), .slice a29 (l[k]!.Value.n) c31, .int .i64 (l[k]!.Status), .int .i64 (l[k]!.From), .int .i64 (l[k]!.To), .bool (l[k]!.Open), .int .i64 (l[k]!.Tag.Count), .int .i64 (l[k]!.Tag.Client)] (by kernel_rfl) (fun w35 hp36 => ?_))
    refine OPS.nil ?_
    refine thn_n ?_
    refine WP.region _ rfl (by kernel_rfl) ?_
    refine OPS.batch 2 {} [.agg #[.int .i64 (l[k]!.Client), .int .i64 (l[k]!.Op), .bool (l[k]!.Put), .string (l[k]!.Key), .slice a29 (l[k]!.Value.n) c31, .int .i64 (l[k]!.Status), .int .i64 (l[k]!.From), .int .i64 (l[k]!.To), .bool (l[k]!.Open), .int .i64 (l[k]!.Tag.Count), .int .i64 (l[k]!.Tag.Client)]] [0, 4, 20, 21] [.slice a n c, .int .i64 (k : Int), .slice ao no co, .agg #[.int .i64 (l[k]!.Client), .int .i64 (l[k]!.Op), .bool (l[k]!.Put), .string (l[k]!.Key), .slice a29 (l[k]!.Value.n) c31, .int .i64 (l[k]!.Status), .int .i64 (l[k]!.From), .int .i64 (l[k]!.To), .bool (l[k]!.Open), .int .i64 (l[k]!.Tag.Count), .int .i64 (l[k]!.Tag.Client)]] (.cons (show Ld Try.prog w35 73 ⟨g21, 0, none⟩ (.agg #[.int .i64 (l[k]!.Client), .int .i64 (l[k]!.Op), .bool (l[k]!.Put), .string (l[k]!.Key), .slice a29 (l[k]!.Value.n) c31, .int .i64 (l[k]!.Status), .int .i64 (l[k]!.From), .int .i64 (l[k]!.To), .bool (l[k]!.Open), .int .i64 (l[k]!.Tag.Count), .int .i64 (l[k]!.Tag.Client)]) from Ld.rowN (cs := [.int .i64 (l[k]!.Client), .int .i64 (l[k]!.Op), .bool (l[k]!.Put), .string (l[k]!.Key), .slice a29 (l[k]!.Value.n) c31, .int .i64 (l[k]!.Status), .int .i64 (l[k]!.From), .int .i64 (l[k]!.To), .bool (l[k]!.Open), .int .i64 (l[k]!.Tag.Count), .int .i64 (l[k]!.Tag.Client)]) hp36.get1 (by kernel_rfl)) .nil) (by kernel_rfl) (fun b37 => ?_)
    refine OPS.cons (opStep.buildSlice (E := 73) hp36 [.int .i64 (l[k]!.Client), .int .i64 (l[k]!.Op), .bool (l[k]!.Put), .string (l[k]!.Key), .slice a29 (l[k]!.Value.n) c31, .int .i64 (l[k]!.Status), .int .i64 (l[k]!.From), .int .i64 (l[k]!.To), .bool (l[k]!.Open), .int .i64 (l[k]!.Tag.Count), .int .i64 (l[k]!.Tag.Client)] (by kernel_rfl) (fun g40 w38 hp39 => ?_))
    refine OPS.cons (opStep.append3 [.int .i64 (l[k]!.Client), .int .i64 (l[k]!.Op), .bool (l[k]!.Put), .string (l[k]!.Key), .slice a29 (l[k]!.Value.n) c31, .int .i64 (l[k]!.Status), .int .i64 (l[k]!.From), .int .i64 (l[k]!.To), .bool (l[k]!.Open), .int .i64 (l[k]!.Tag.Count), .int .i64 (l[k]!.Tag.Client)] hp39 112 (by kernel_rfl) rfl rfl rfl (SlR.row (n := 1) hp39.get0 rfl).rd (List.all_eq_true.1 (by kernel_rfl)) (by decide) (by omega) (by omega) (fun a43 c44 w45 hp46 hn47 => ?_))
    rw [(show List.flatMap GCall.cells cl ++ [.int .i64 (l[k]!.Client), .int .i64 (l[k]!.Op), .bool (l[k]!.Put), .string (l[k]!.Key), .slice a29 (l[k]!.Value.n) c31, .int .i64 (l[k]!.Status), .int .i64 (l[k]!.From), .int .i64 (l[k]!.To), .bool (l[k]!.Open), .int .i64 (l[k]!.Tag.Count), .int .i64 (l[k]!.Tag.Client)] = List.flatMap GCall.cells (cl ++ [(⟨l[k]!.Client, l[k]!.Op, l[k]!.Put, l[k]!.Key, ⟨a29, l[k]!.Value.n, c31⟩, l[k]!.Status, l[k]!.From, l[k]!.To, l[k]!.Open, (⟨l[k]!.Tag.Count, l[k]!.Tag.Client⟩ : GTag)⟩ : GCall)]) from (List.flatMap_append (xs := cl) (ys := [(⟨l[k]!.Client, l[k]!.Op, l[k]!.Put, l[k]!.Key, ⟨a29, l[k]!.Value.n, c31⟩, l[k]!.Status, l[k]!.From, l[k]!.To, l[k]!.Open, (⟨l[k]!.Tag.Count, l[k]!.Tag.Client⟩ : GTag)⟩ : GCall)])).symm)] at hp46
    refine OPS.batch 1 {} [] [0, 3, 4] [.slice a n c, .slice a43 (no + 1) c44, .int .i64 (k : Int)] .nil (by kernel_rfl) (fun b48 => ?_)
    refine OPS.nil ?_
    refine blk_n ?_
    refine thn_n ?_
    refine WP.pure {} [] [0, 3, 4] [.slice a n c, .slice a43 (no + 1) c44, .int .i64 ((k : Int) + 1)] (.cons (show Rng .i64 ((k : Int) + 1) from Rng.i64 (by omega)) .nil) (by kernel_rfl) (fun b49 => ?_)
    refine thn_n ?_
    have hp50 := hp46.pull4
    have hp51 := hp50.pull2
    have hp52 := hp51.vwPush (⟨l[k]!.Client, l[k]!.Op, l[k]!.Put, l[k]!.Key, ⟨a29, l[k]!.Value.n, c31⟩, l[k]!.Status, l[k]!.From, l[k]!.To, l[k]!.Open, (⟨l[k]!.Tag.Count, l[k]!.Tag.Client⟩ : GTag)⟩ : GCall) (bytesAt_len _ _) rfl
    exact ⟨l.length - (k + 1), (by omega), k + 1, cl ++ [(⟨l[k]!.Client, l[k]!.Op, l[k]!.Put, l[k]!.Key, ⟨a29, l[k]!.Value.n, c31⟩, l[k]!.Status, l[k]!.From, l[k]!.To, l[k]!.Open, (⟨l[k]!.Tag.Count, l[k]!.Tag.Client⟩ : GTag)⟩ : GCall)], bs ++ [bytesAt w l[k]!.Value], fun k_ => F k_ ∨ (Value.slice a29 (l[k]!.Value.n + 2) c31).ownBlock = some k_, a43, no + 1, c44, rfl, ⟨by omega, cpC_step pb ⟨_, rfl⟩ rfl⟩, by kernel_rfl, (((hp52.pull0).pull3).sub (.cons_cons _ (.cons_cons _ (.cons _ (.cons _ (.slnil))))))⟩
  · refine WP.exit ?_
    refine thn_x ?_
    refine thn_x ?_
    refine blk_hit ?_
    refine thn_n ?_
    refine WP.seq ?_
    refine WP.region _ rfl (by kernel_rfl) ?_
    refine OPS.batch 2 {} [] [0, 24, 25] [.slice a n c, .slice ao no co, .agg #[.int .i64 (-77), .int .i64 0, .bool false, .string ByteArray.empty, .slice none 0 0, .int .i64 0, .int .i64 0, .int .i64 0, .bool false, .int .i64 0, .int .i64 0]] .nil (by kernel_rfl) (fun b53 => ?_)
    refine OPS.cons (opStep.buildSlice (E := 73) hp8 [.int .i64 (-77), .int .i64 0, .bool false, .string ByteArray.empty, .slice none 0 0, .int .i64 0, .int .i64 0, .int .i64 0, .bool false, .int .i64 0, .int .i64 0] (by kernel_rfl) (fun g56 w54 hp55 => ?_))
    refine OPS.cons (opStep.append1 [.int .i64 (-77), .int .i64 0, .bool false, .string ByteArray.empty, .slice none 0 0, .int .i64 0, .int .i64 0, .int .i64 0, .bool false, .int .i64 0, .int .i64 0] hp55 112 (by kernel_rfl) rfl rfl rfl (SlR.row (n := 1) hp55.get0 rfl).rd (List.all_eq_true.1 (by kernel_rfl)) (by decide) (by omega) (by omega) (fun a59 c60 w61 hp62 hn63 => ?_))
    rw [(show List.flatMap GCall.cells cl ++ [.int .i64 (-77), .int .i64 0, .bool false, .string ByteArray.empty, .slice none 0 0, .int .i64 0, .int .i64 0, .int .i64 0, .bool false, .int .i64 0, .int .i64 0] = List.flatMap GCall.cells (cl ++ [(⟨(-77), 0, false, ByteArray.empty, ⟨none, 0, 0⟩, 0, 0, 0, false, (⟨0, 0⟩ : GTag)⟩ : GCall)]) from (List.flatMap_append (xs := cl) (ys := [(⟨(-77), 0, false, ByteArray.empty, ⟨none, 0, 0⟩, 0, 0, 0, false, (⟨0, 0⟩ : GTag)⟩ : GCall)])).symm)] at hp62
    have := own_cap hp62.get1
    refine OPS.batch 4 {} [] [2] [.slice a59 n c60] (.cons (show (0 : Int) ≤ ((n : Nat) : Int) ∧ ((n : Nat) : Int) ≤ ((c60 : Nat) : Int) from ⟨by omega, by omega⟩) .nil) (by kernel_rfl) (fun b64 => ?_)
    refine OPS.nil ?_
    refine thn_n ?_
    refine WP.ret ?_
    refine bodyQ.of _ rfl [.slice a59 n c60] ⟨rfl, trivial⟩ ?_
    obtain rfl : k = l.length := by omega
    obtain rfl : no = l.length := by omega
    obtain rfl : n = l.length := by omega
    exact ⟨_, _, _, _, _, (⟨(-77), 0, false, ByteArray.empty, ⟨none, 0, 0⟩, 0, 0, 0, false, (⟨0, 0⟩ : GTag)⟩ : GCall), rfl, pb, rfl, (hp62.sub (.cons _ (.cons_cons _ (.cons_cons _ (.slnil)))))⟩

theorem l21_equal (l1 l2 : List Int) (a1 a2 : Option Addr) (n1 n2 c1 c2 : Nat) (w : World) (m1 : l1.length = n1) (m2 : l2.length = n2) (hb : l1.length ≤ 1152921504606846975) (h1 : SlR w a1 n1 (List.flatMap (fun (y : Int) => [Go.Value.int .i64 y]) l1)) (h2 : SlR w a2 n2 (List.flatMap (fun (y : Int) => [Go.Value.int .i64 y]) l2)) :
    Calls Try.prog 31 #[.slice a1 n1 c1, .slice a2 n2 c2] w (fun r_ w' => ∃ f_, r_ = .returned (.bool f_) ∧ Bp f_ (l1 = l2) ∧ Fram Non w w') := by
  refine calls_of Try.func31 rfl 26 rfl (by simp) ?_
  have hp0 := Hp.init w
  have he0 : List.map (env0 [.slice a1 n1 c1, .slice a2 n2 c2]) [0, 1] = [.slice a1 n1 c1, .slice a2 n2 c2] := by kernel_rfl
  obtain ⟨b0, he0⟩ := toMk he0
  rw [he0]
  clear he0
  refine WP.seq ?_
  refine WP.pure {} [] [0, 1] [.slice a1 n1 c1, .slice a2 n2 c2] .nil (by kernel_rfl) (fun b1 => ?_)
  refine thn_n ?_
  refine WP.seq ?_
  refine WP.seq ?_
  refine WP.pure {} [] [0, 1, 10] [.slice a1 n1 c1, .slice a2 n2 c2, .bool (decide (¬ (((n1 : Nat) : Int) = ((n2 : Nat) : Int))))] .nil (by kernel_rfl) (fun b2 => ?_)
  refine thn_n ?_
  refine WP.test (p := ¬ (((n1 : Nat) : Int) = ((n2 : Nat) : Int))) rfl Bp.dec (fun h3 => ?_) (fun h3 => ?_)
  · refine WP.seq ?_
    refine WP.pure {} [] [4] [.bool false] .nil (by kernel_rfl) (fun b4 => ?_)
    refine thn_n ?_
    refine WP.ret ?_
    refine thn_r ?_
    refine bodyQ.of _ rfl [.bool false] ⟨rfl, trivial⟩ ?_
    exact ⟨_, rfl, Bp.of Bp.f (by exact ⟨fun h => h.elim, fun h => h3 (by rw [h] at m1; omega)⟩), hp0.fr⟩
  · replace h3 := Classical.not_not.1 h3
    refine WP.skip ?_
    refine thn_n ?_
    refine WP.seq ?_
    refine WP.seq ?_
    refine WP.pure {} [] [0, 1, 5] [.slice a1 n1 c1, .slice a2 n2 c2, .int .i64 0] .nil (by kernel_rfl) (fun b5 => ?_)
    refine thn_n ?_
    refine WP.block ?_
    refine WP.loop (fun mz_ e6 w7 => ∃ (k : Nat), mz_ = l1.length - k ∧ (k ≤ l1.length ∧ l1.take k = l2.take k) ∧ List.map e6 [0, 1, 5] = [.slice a1 n1 c1, .slice a2 n2 c2, .int .i64 (k : Int)] ∧ Hp w Non [] w7) (l1.length - (0)) ⟨0, rfl, ⟨by omega, rfl⟩, by kernel_rfl, hp0⟩ ?_
    rintro _ e6 w7 ⟨k, rfl, hI9, hE10, hp8⟩
    obtain ⟨b11, rfl⟩ := toMk hE10
    clear hE10
    obtain ⟨q1, q2⟩ := hI9
    refine WP.seq ?_
    refine WP.seq ?_
    refine WP.pure {} [] [0, 1, 5, 14] [.slice a1 n1 c1, .slice a2 n2 c2, .int .i64 (k : Int), .bool (decide ((k : Int) < ((n1 : Nat) : Int)))] .nil (by kernel_rfl) (fun b12 => ?_)
    refine thn_n ?_
    refine WP.test (p := (k : Int) < ((n1 : Nat) : Int)) rfl Bp.dec (fun h13 => ?_) (fun h13 => ?_)
    · refine WP.skip ?_
      refine thn_n ?_
      refine WP.seq ?_
      refine WP.block ?_
      refine WP.seq ?_
      have hp16 := hp8.drew
      refine WP.quiet (fun w14 => Hp w Non [] w14) (by kernel_rfl) hp16 ?_
      have hnehp16 : ∃ wz_, (fun w14 => Hp w Non [] w14) wz_ := ⟨_, hp16⟩
      have hy20 : (l1)[k]? = some l1[k]! := get_bang (by first | (omega) | (simp only [List.length_append, List.length_cons, List.length_nil]; omega) | (simp only [List.length_take, List.length_append, List.length_cons, List.length_nil]; omega))
      have hy22 : (l2)[k]? = some l2[k]! := get_bang (by first | (omega) | (simp only [List.length_append, List.length_cons, List.length_nil]; omega) | (simp only [List.length_take, List.length_append, List.length_cons, List.length_nil]; omega))
      refine QOPS.batch 9 {} [.int .i64 (l1[k]!), .int .i64 (l2[k]!)] [0, 1, 5, 25] [.slice a1 n1 c1, .slice a2 n2 c2, .int .i64 (k : Int), .bool (decide (¬ ((l1[k]!) = (l2[k]!))))] hnehp16 (fun w17 hp18 => QB.mk (.cons (show InB ((k : Int)) (n1) from ⟨by omega, by omega⟩) (.cons ((h1.at hp18).some (by omega)) (.cons (Ld.add0 (Ld.el1 (P := Try.prog) (t := 3) (h1.at hp18).rd 1 (fun _ => rfl) hy20 (o := 0) (v := .int .i64 (l1[k]!)) (by kernel_rfl))) (.cons (show InB ((k : Int)) (n2) from ⟨by omega, by omega⟩) (.cons ((h2.at hp18).some (by omega)) (.cons (Ld.add0 (Ld.el1 (P := Try.prog) (t := 3) (h2.at hp18).rd 1 (fun _ => rfl) hy22 (o := 0) (v := .int .i64 (l2[k]!)) (by kernel_rfl))) .nil)))))) (by kernel_rfl)) (fun b23 => ?_)
      refine QOPS.nil (fun w24 hp25 => ?_)
      refine thn_n ?_
      refine WP.test (p := ¬ ((l1[k]!) = (l2[k]!))) rfl Bp.dec (fun h26 => ?_) (fun h26 => ?_)
      · refine WP.seq ?_
        refine WP.pure {} [] [4] [.bool false] .nil (by kernel_rfl) (fun b27 => ?_)
        refine thn_n ?_
        refine WP.ret ?_
        refine blk_r ?_
        refine thn_r ?_
        refine thn_r ?_
        refine blk_r ?_
        refine thn_r ?_
        refine bodyQ.of _ rfl [.bool false] ⟨rfl, trivial⟩ ?_
        exact ⟨_, rfl, Bp.of Bp.f (by exact ⟨fun h => h.elim, fun h => h26 (by rw [h])⟩), hp25.fr⟩
      · replace h26 := Classical.not_not.1 h26
        refine WP.skip ?_
        refine blk_n ?_
        refine thn_n ?_
        refine WP.pure {} [] [0, 1, 5] [.slice a1 n1 c1, .slice a2 n2 c2, .int .i64 ((k : Int) + 1)] (.cons (show Rng .i64 ((k : Int) + 1) from Rng.i64 (by omega)) .nil) (by kernel_rfl) (fun b28 => ?_)
        refine thn_n ?_
        exact ⟨l1.length - (k + 1), (by omega), k + 1, rfl, ⟨by omega, take_same (by omega) (by omega) q2 h26⟩, by kernel_rfl, hp25⟩
    · refine WP.exit ?_
      refine thn_x ?_
      refine thn_x ?_
      refine blk_hit ?_
      refine thn_n ?_
      refine WP.seq ?_
      refine WP.pure {} [] [4] [.bool true] .nil (by kernel_rfl) (fun b29 => ?_)
      refine thn_n ?_
      refine WP.ret ?_
      refine bodyQ.of _ rfl [.bool true] ⟨rfl, trivial⟩ ?_
      exact ⟨_, rfl, Bp.of Bp.t (by exact ⟨fun _ => by rw [List.take_of_length_le (by omega), List.take_of_length_le (by omega)] at q2; exact q2, fun _ => trivial⟩), hp8.fr⟩

theorem l21_kept (l : List GCall) (a : Option Addr) (n c : Nat) (w : World) (hn : n = l.length) (hb : l.length ≤ 8796093022207) (hs : SlR w a n (l.flatMap GCall.cells)) (cl : List GCall) (bs : List (List Int)) (x : GCall) (F : Nat → Prop) (aw : Option Addr) (cw : Nat) (hx : x.Client = -77) (hc : cpC w l cl bs l.length) (hsw : SlR w aw (l.length + 1) (List.flatMap GCall.cells (cl ++ [x]))) (hcw : l.length + 1 ≤ cw) (hvw : (Res.vw F cl bs).holds w) (hb2 : l.length ≤ 1048576) (hv : ∀ y ∈ l, VB w y.Value) (hvn : ∀ y ∈ l, y.Value.n ≤ 140737488351232) :
    Calls Try.prog 30 #[.slice aw l.length cw, .slice a n c] w (fun r_ w' => r_ = .returned (.bool true) ∧ Fram Non w w') := by
  have hvc := vw_mem hvw
  have hcl := hc.1
  have h9 : SlR w aw (((n : Nat) : Int) + 1 : Int).toNat (List.flatMap GCall.cells (cl ++ [x])) := by rw [show (((n : Nat) : Int) + 1 : Int).toNat = l.length + 1 from by omega]; exact hsw
  refine calls_of Try.func30 rfl 133 rfl (by simp) ?_
  have hp0 := Hp.init w
  have he0 : List.map (env0 [.slice aw l.length cw, .slice a n c]) [0, 1] = [.slice aw l.length cw, .slice a n c] := by kernel_rfl
  obtain ⟨b0, he0⟩ := toMk he0
  rw [he0]
  clear he0
  refine WP.seq ?_
  refine WP.pure {} [] [0, 1] [.slice aw l.length cw, .slice a n c] .nil (by kernel_rfl) (fun b1 => ?_)
  refine thn_n ?_
  refine WP.seq ?_
  refine WP.cut (fun e13 w14 => ∃ (x11 : Bool), (True) ∧ Bp x11 (((¬ (((l.length : Nat) : Int) = ((n : Nat) : Int)))) ∨ ((((l.length : Nat) : Int) = ((n : Nat) : Int)) ∧ (¬ (((cl ++ [x])[n]!.Client) = (-77))))) ∧ List.map e13 [0, 1, 27] = [.slice aw l.length cw, .slice a n c, .bool x11] ∧ Hp w Non [] w14) ?_ ?_
  · refine WP.region _ rfl (by kernel_rfl) ?_
    refine OPS.batch 6 {} [] [0, 1, 15] [.slice aw l.length cw, .slice a n c, .bool (decide (¬ (((l.length : Nat) : Int) = ((n : Nat) : Int))))] .nil (by kernel_rfl) (fun b3 => ?_)
    by_cases h4 : ((l.length : Nat) : Int) = ((n : Nat) : Int)
    · refine OPS.batch 0 {} [] [0, 1, 15] [.slice aw l.length cw, .slice a n c, .bool (decide (¬ (((l.length : Nat) : Int) = ((n : Nat) : Int))))] .nil (by kernel_rfl) (fun b7 => ?_)
      refine OPS.re [.slice aw l.length cw, .slice a n c, .bool false] (by rw [show (decide (¬ (((l.length : Nat) : Int) = ((n : Nat) : Int)))) = false from Bp.dec.ff (fun k => k h4)]) ?_
      have hy9 : (cl ++ [x])[n]? = some (cl ++ [x])[n]! := get_bang (by first | (omega) | (simp only [List.length_append, List.length_cons, List.length_nil]; omega) | (simp only [List.length_take, List.length_append, List.length_cons, List.length_nil]; omega))
      refine OPS.batch 12 { wraps := [27] } [.int .i64 ((cl ++ [x])[n]!.Client)] [0, 1, 27] [.slice aw l.length cw, .slice a n c, .bool (decide (¬ (((cl ++ [x])[n]!.Client) = (-77))))] (.cons (show Rng .i64 (((n : Nat) : Int) + 1) from Rng.i64 (by omega)) (.cons (show (0 : Int) ≤ (((n : Nat) : Int) + 1) ∧ (((n : Nat) : Int) + 1) ≤ ((cw : Nat) : Int) from ⟨by omega, by omega⟩) (.cons (show InB (((n : Nat) : Int)) ((((n : Nat) : Int) + 1 : Int).toNat) from ⟨by omega, by omega⟩) (.cons ((h9.at hp0).some (by omega)) (.cons (Ld.add0 (Ld.el1 (P := Try.prog) (t := 3) (h9.at hp0).rd 11 (fun _ => rfl) hy9 (o := 0) (v := .int .i64 ((cl ++ [x])[n]!.Client)) (by kernel_rfl))) .nil))))) (by kernel_rfl) (fun b10 => ?_)
      refine OPS.nil ?_
      refine thn_n ?_
      exact ⟨decide (¬ (((cl ++ [x])[n]!.Client) = (-77))), trivial, Bp.of Bp.dec (by first | (simp only [h4, iff_false, false_iff, iff_true, true_iff, Classical.not_not, and_true, true_and, and_false, false_and, or_true, true_or, or_false, false_or, not_true_eq_false, not_false_eq_true, and_self, or_self, iff_self]; done) | (simp [h4]; done) | grind | (simp_all; done)), by kernel_rfl, hp0⟩
    · refine OPS.batch 0 {} [] [0, 1, 15] [.slice aw l.length cw, .slice a n c, .bool (decide (¬ (((l.length : Nat) : Int) = ((n : Nat) : Int))))] .nil (by kernel_rfl) (fun b5 => ?_)
      refine OPS.re [.slice aw l.length cw, .slice a n c, .bool true] (by rw [show (decide (¬ (((l.length : Nat) : Int) = ((n : Nat) : Int)))) = true from Bp.dec.tt h4]) ?_
      refine OPS.batch 12 { wraps := [27] } [] [0, 1, 27] [.slice aw l.length cw, .slice a n c, .bool true] .nil (by kernel_rfl) (fun b6 => ?_)
      refine OPS.nil ?_
      refine thn_n ?_
      exact ⟨true, trivial, Bp.of Bp.t (by first | (simp only [h4, iff_false, false_iff, iff_true, true_iff, Classical.not_not, and_true, true_and, and_false, false_and, or_true, true_or, or_false, false_or, not_true_eq_false, not_false_eq_true, and_self, or_self, iff_self]; done) | (simp [h4]; done) | grind | (simp_all; done)), by kernel_rfl, hp0⟩
  rintro e13 w14 ⟨x11, hd16, hb12, hE17, hp15⟩
  obtain ⟨b18, rfl⟩ := toMk hE17
  clear hE17
  clear hd16
  refine WP.test (p := ((¬ (((l.length : Nat) : Int) = ((n : Nat) : Int)))) ∨ ((((l.length : Nat) : Int) = ((n : Nat) : Int)) ∧ (¬ (((cl ++ [x])[n]!.Client) = (-77))))) rfl hb12 (fun h19 => ?_) (fun h19 => ?_)
  · refine WP.seq ?_
    refine WP.pure {} [] [4] [.bool false] .nil (by kernel_rfl) (fun b20 => ?_)
    refine thn_n ?_
    refine WP.ret ?_
    refine thn_r ?_
    refine bodyQ.of _ rfl [.bool false] ⟨rfl, trivial⟩ ?_
    exfalso
    have e1 := app_last (l := cl) (x := x) (n := n) (by have := hc.1; omega)
    have h_ := h19
    grind
  · refine WP.skip ?_
    refine thn_n ?_
    refine WP.seq ?_
    refine WP.seq ?_
    refine WP.pure {} [] [0, 1, 5] [.slice aw l.length cw, .slice a n c, .int .i64 0] .nil (by kernel_rfl) (fun b21 => ?_)
    refine thn_n ?_
    refine WP.block ?_
    refine WP.loop (fun mz_ e22 w23 => ∃ (k : Nat), mz_ = l.length - k ∧ (k ≤ l.length) ∧ List.map e22 [0, 1, 5] = [.slice aw l.length cw, .slice a n c, .int .i64 (k : Int)] ∧ Hp w Non [] w23) (l.length - (0)) ⟨0, rfl, (by omega), by kernel_rfl, hp15⟩ ?_
    rintro _ e22 w23 ⟨k, rfl, hI25, hE26, hp24⟩
    obtain ⟨b27, rfl⟩ := toMk hE26
    clear hE26
    obtain pa := hI25
    have pq := fun h => cp_eqs hc (i := k) h
    have pn := fun h => vw_n hvw hc (i := k) h
    have pv : k < l.length → valAt w cl[k]!.Value = valAt w l[k]!.Value := fun h => by unfold valAt; rw [vw_bytes hvw hc k h]
    have pu := fun (h : k < l.length) => hvn _ (List.mem_of_getElem? (get_bang h))
    refine WP.seq ?_
    refine WP.seq ?_
    refine WP.pure {} [] [0, 1, 5, 31] [.slice aw l.length cw, .slice a n c, .int .i64 (k : Int), .bool (decide ((k : Int) < ((n : Nat) : Int)))] .nil (by kernel_rfl) (fun b28 => ?_)
    refine thn_n ?_
    refine WP.test (p := (k : Int) < ((n : Nat) : Int)) rfl Bp.dec (fun h29 => ?_) (fun h29 => ?_)
    · refine WP.skip ?_
      refine thn_n ?_
      refine WP.seq ?_
      refine WP.block ?_
      refine WP.seq ?_
      refine WP.region _ rfl (by kernel_rfl) ?_
      have hy33 : (cl)[k]? = some cl[k]! := get_bang (by first | (omega) | (simp only [List.length_append, List.length_cons, List.length_nil]; omega) | (simp only [List.length_take, List.length_append, List.length_cons, List.length_nil]; omega))
      refine OPS.batch 4 {} [GCall.val (cl[k]!)] [0, 1, 5, 37] [.slice aw l.length cw, .slice a n c, .int .i64 (k : Int), GCall.val (cl[k]!)] (.cons (show InB ((k : Int)) (l.length) from ⟨by omega, by omega⟩) (.cons (((kw_cut (E := 0) (c := 0) hsw hc.1).at hp24).some (by omega)) (.cons (Ld.add0 (Ld.elN (P := Try.prog) (t := 73) ((kw_cut (E := 0) (c := 0) hsw hc.1).at hp24).rd 11 (fun _ => rfl) hy33 (o := 0) (cs := [.int .i64 (cl[k]!.Client), .int .i64 (cl[k]!.Op), .bool (cl[k]!.Put), .string (cl[k]!.Key), .slice (cl[k]!.Value.a) (cl[k]!.Value.n) (cl[k]!.Value.c), .int .i64 (cl[k]!.Status), .int .i64 (cl[k]!.From), .int .i64 (cl[k]!.To), .bool (cl[k]!.Open), .int .i64 (cl[k]!.Tag.Count), .int .i64 (cl[k]!.Tag.Client)]) (by kernel_rfl))) .nil))) (by kernel_rfl) (fun b34 => ?_)
      refine OPS.cons (opStep.alloc hp24 [.int .i64 0, .int .i64 0, .bool false, .string ByteArray.empty, .slice none 0 0, .int .i64 0, .int .i64 0, .int .i64 0, .bool false, .int .i64 0, .int .i64 0] (by kernel_rfl) (fun g37 w35 hp36 => ?_))
      refine OPS.cons (opStep.store0 hp36 rfl [.int .i64 (cl[k]!.Client), .int .i64 (cl[k]!.Op), .bool (cl[k]!.Put), .string (cl[k]!.Key), .slice (cl[k]!.Value.a) (cl[k]!.Value.n) (cl[k]!.Value.c), .int .i64 (cl[k]!.Status), .int .i64 (cl[k]!.From), .int .i64 (cl[k]!.To), .bool (cl[k]!.Open), .int .i64 (cl[k]!.Tag.Count), .int .i64 (cl[k]!.Tag.Client)] [.int .i64 (cl[k]!.Client), .int .i64 (cl[k]!.Op), .bool (cl[k]!.Put), .string (cl[k]!.Key), .slice (cl[k]!.Value.a) (cl[k]!.Value.n) (cl[k]!.Value.c), .int .i64 (cl[k]!.Status), .int .i64 (cl[k]!.From), .int .i64 (cl[k]!.To), .bool (cl[k]!.Open), .int .i64 (cl[k]!.Tag.Count), .int .i64 (cl[k]!.Tag.Client)] (by kernel_rfl) (fun w38 hp39 => ?_))
      refine OPS.nil ?_
      refine thn_n ?_
      refine WP.seq ?_
      refine WP.region _ rfl (by kernel_rfl) ?_
      have hy43 : (l)[k]? = some l[k]! := get_bang (by first | (omega) | (simp only [List.length_append, List.length_cons, List.length_nil]; omega) | (simp only [List.length_take, List.length_append, List.length_cons, List.length_nil]; omega))
      refine OPS.batch 4 {} [GCall.val (l[k]!)] [0, 1, 5, 6, 41] [.slice aw l.length cw, .slice a n c, .int .i64 (k : Int), .pointer (some ⟨g37, 0, none⟩), GCall.val (l[k]!)] (.cons (show InB ((k : Int)) (n) from ⟨by omega, by omega⟩) (.cons ((hs.at hp39).some (by omega)) (.cons (Ld.add0 (Ld.elN (P := Try.prog) (t := 73) (hs.at hp39).rd 11 (fun _ => rfl) hy43 (o := 0) (cs := [.int .i64 (l[k]!.Client), .int .i64 (l[k]!.Op), .bool (l[k]!.Put), .string (l[k]!.Key), .slice (l[k]!.Value.a) (l[k]!.Value.n) (l[k]!.Value.c), .int .i64 (l[k]!.Status), .int .i64 (l[k]!.From), .int .i64 (l[k]!.To), .bool (l[k]!.Open), .int .i64 (l[k]!.Tag.Count), .int .i64 (l[k]!.Tag.Client)]) (by kernel_rfl))) .nil))) (by kernel_rfl) (fun b44 => ?_)
      refine OPS.cons (opStep.alloc hp39 [.int .i64 0, .int .i64 0, .bool false, .string ByteArray.empty, .slice none 0 0, .int .i64 0, .int .i64 0, .int .i64 0, .bool false, .int .i64 0, .int .i64 0] (by kernel_rfl) (fun g47 w45 hp46 => ?_))
      refine OPS.cons (opStep.store0 hp46 rfl [.int .i64 (l[k]!.Client), .int .i64 (l[k]!.Op), .bool (l[k]!.Put), .string (l[k]!.Key), .slice (l[k]!.Value.a) (l[k]!.Value.n) (l[k]!.Value.c), .int .i64 (l[k]!.Status), .int .i64 (l[k]!.From), .int .i64 (l[k]!.To), .bool (l[k]!.Open), .int .i64 (l[k]!.Tag.Count), .int .i64 (l[k]!.Tag.Client)] [.int .i64 (l[k]!.Client), .int .i64 (l[k]!.Op), .bool (l[k]!.Put), .string (l[k]!.Key), .slice (l[k]!.Value.a) (l[k]!.Value.n) (l[k]!.Value.c), .int .i64 (l[k]!.Status), .int .i64 (l[k]!.From), .int .i64 (l[k]!.To), .bool (l[k]!.Open), .int .i64 (l[k]!.Tag.Count), .int .i64 (l[k]!.Tag.Client)] (by kernel_rfl) (fun w48 hp49 => ?_))
      refine OPS.nil ?_
      refine thn_n ?_
      refine WP.seq ?_
      refine WP.pure {} [.slice (l[k]!.Value.a) (l[k]!.Value.n) (l[k]!.Value.c)] [0, 1, 5, 6, 7, 8] [.slice aw l.length cw, .slice a n c, .int .i64 (k : Int), .pointer (some ⟨g37, 0, none⟩), .pointer (some ⟨g47, 0, none⟩), .int .i64 ((l[k]!.Value.n : Nat) : Int)] (.cons (Ld.row1 (P := Try.prog) (t := 71) (o := 4) (v := .slice (l[k]!.Value.a) (l[k]!.Value.n) (l[k]!.Value.c)) hp49.get0 (by kernel_rfl)) .nil) (by kernel_rfl) (fun b50 => ?_)
      refine thn_n ?_
      refine WP.seq ?_
      refine WP.cut (fun e100 w101 => ∃ (x98 : Bool), (True) ∧ Bp x98 (((¬ ((cl[k]!.Client) = (l[k]!.Client)))) ∨ (((cl[k]!.Client) = (l[k]!.Client)) ∧ (¬ ((cl[k]!.Op) = (l[k]!.Op)))) ∨ (((cl[k]!.Client) = (l[k]!.Client)) ∧ ((cl[k]!.Op) = (l[k]!.Op)) ∧ (¬ ((((cl[k]!.Put) = true) ↔ ((l[k]!.Put) = true))))) ∨ (((cl[k]!.Client) = (l[k]!.Client)) ∧ ((cl[k]!.Op) = (l[k]!.Op)) ∧ (((cl[k]!.Put) = true) ↔ ((l[k]!.Put) = true)) ∧ (¬ ((cl[k]!.Key) = (l[k]!.Key)))) ∨ (((cl[k]!.Client) = (l[k]!.Client)) ∧ ((cl[k]!.Op) = (l[k]!.Op)) ∧ (((cl[k]!.Put) = true) ↔ ((l[k]!.Put) = true)) ∧ ((cl[k]!.Key) = (l[k]!.Key)) ∧ (¬ ((valAt w cl[k]!.Value) = (valAt w l[k]!.Value)))) ∨ (((cl[k]!.Client) = (l[k]!.Client)) ∧ ((cl[k]!.Op) = (l[k]!.Op)) ∧ (((cl[k]!.Put) = true) ↔ ((l[k]!.Put) = true)) ∧ ((cl[k]!.Key) = (l[k]!.Key)) ∧ ((valAt w cl[k]!.Value) = (valAt w l[k]!.Value)) ∧ (¬ ((cl[k]!.Status) = (l[k]!.Status)))) ∨ (((cl[k]!.Client) = (l[k]!.Client)) ∧ ((cl[k]!.Op) = (l[k]!.Op)) ∧ (((cl[k]!.Put) = true) ↔ ((l[k]!.Put) = true)) ∧ ((cl[k]!.Key) = (l[k]!.Key)) ∧ ((valAt w cl[k]!.Value) = (valAt w l[k]!.Value)) ∧ ((cl[k]!.Status) = (l[k]!.Status)) ∧ (¬ ((cl[k]!.From) = (l[k]!.From)))) ∨ (((cl[k]!.Client) = (l[k]!.Client)) ∧ ((cl[k]!.Op) = (l[k]!.Op)) ∧ (((cl[k]!.Put) = true) ↔ ((l[k]!.Put) = true)) ∧ ((cl[k]!.Key) = (l[k]!.Key)) ∧ ((valAt w cl[k]!.Value) = (valAt w l[k]!.Value)) ∧ ((cl[k]!.Status) = (l[k]!.Status)) ∧ ((cl[k]!.From) = (l[k]!.From)) ∧ (¬ ((cl[k]!.To) = (l[k]!.To)))) ∨ (((cl[k]!.Client) = (l[k]!.Client)) ∧ ((cl[k]!.Op) = (l[k]!.Op)) ∧ (((cl[k]!.Put) = true) ↔ ((l[k]!.Put) = true)) ∧ ((cl[k]!.Key) = (l[k]!.Key)) ∧ ((valAt w cl[k]!.Value) = (valAt w l[k]!.Value)) ∧ ((cl[k]!.Status) = (l[k]!.Status)) ∧ ((cl[k]!.From) = (l[k]!.From)) ∧ ((cl[k]!.To) = (l[k]!.To)) ∧ (¬ ((((cl[k]!.Open) = true) ↔ ((l[k]!.Open) = true))))) ∨ (((cl[k]!.Client) = (l[k]!.Client)) ∧ ((cl[k]!.Op) = (l[k]!.Op)) ∧ (((cl[k]!.Put) = true) ↔ ((l[k]!.Put) = true)) ∧ ((cl[k]!.Key) = (l[k]!.Key)) ∧ ((valAt w cl[k]!.Value) = (valAt w l[k]!.Value)) ∧ ((cl[k]!.Status) = (l[k]!.Status)) ∧ ((cl[k]!.From) = (l[k]!.From)) ∧ ((cl[k]!.To) = (l[k]!.To)) ∧ (((cl[k]!.Open) = true) ↔ ((l[k]!.Open) = true)) ∧ (¬ (((cl[k]!.Tag.Count) = (l[k]!.Tag.Count)) ∧ ((cl[k]!.Tag.Client) = (l[k]!.Tag.Client)))))) ∧ List.map e100 [0, 1, 5, 6, 8, 114] = [.slice aw l.length cw, .slice a n c, .int .i64 (k : Int), .pointer (some ⟨g37, 0, none⟩), .int .i64 ((l[k]!.Value.n : Nat) : Int), .bool x98] ∧ Hp w Non [Res.row g47 [.int .i64 (l[k]!.Client), .int .i64 (l[k]!.Op), .bool (l[k]!.Put), .string (l[k]!.Key), .slice (l[k]!.Value.a) (l[k]!.Value.n) (l[k]!.Value.c), .int .i64 (l[k]!.Status), .int .i64 (l[k]!.From), .int .i64 (l[k]!.To), .bool (l[k]!.Open), .int .i64 (l[k]!.Tag.Count), .int .i64 (l[k]!.Tag.Client)] 73, Res.row g37 [.int .i64 (cl[k]!.Client), .int .i64 (cl[k]!.Op), .bool (cl[k]!.Put), .string (cl[k]!.Key), .slice (cl[k]!.Value.a) (cl[k]!.Value.n) (cl[k]!.Value.c), .int .i64 (cl[k]!.Status), .int .i64 (cl[k]!.From), .int .i64 (cl[k]!.To), .bool (cl[k]!.Open), .int .i64 (cl[k]!.Tag.Count), .int .i64 (cl[k]!.Tag.Client)] 73] w101) ?_ ?_
      · refine WP.region _ rfl (by kernel_rfl) ?_
        refine OPS.batch 6 {} [.int .i64 (cl[k]!.Client), .int .i64 (l[k]!.Client)] [0, 1, 5, 6, 7, 8, 50] [.slice aw l.length cw, .slice a n c, .int .i64 (k : Int), .pointer (some ⟨g37, 0, none⟩), .pointer (some ⟨g47, 0, none⟩), .int .i64 ((l[k]!.Value.n : Nat) : Int), .bool (decide (¬ ((cl[k]!.Client) = (l[k]!.Client))))] (.cons (Ld.row1 (P := Try.prog) (t := 3) (o := 0) (v := .int .i64 (cl[k]!.Client)) hp49.get1 (by kernel_rfl)) (.cons (Ld.row1 (P := Try.prog) (t := 3) (o := 0) (v := .int .i64 (l[k]!.Client)) hp49.get0 (by kernel_rfl)) .nil)) (by kernel_rfl) (fun b52 => ?_)
        by_cases h53 : (cl[k]!.Client) = (l[k]!.Client)
        · refine OPS.batch 0 {} [] [0, 1, 5, 6, 7, 8, 50] [.slice aw l.length cw, .slice a n c, .int .i64 (k : Int), .pointer (some ⟨g37, 0, none⟩), .pointer (some ⟨g47, 0, none⟩), .int .i64 ((l[k]!.Value.n : Nat) : Int), .bool (decide (¬ ((cl[k]!.Client) = (l[k]!.Client))))] .nil (by kernel_rfl) (fun b56 => ?_)
          refine OPS.re [.slice aw l.length cw, .slice a n c, .int .i64 (k : Int), .pointer (some ⟨g37, 0, none⟩), .pointer (some ⟨g47, 0, none⟩), .int .i64 ((l[k]!.Value.n : Nat) : Int), .bool false] (by rw [show (decide (¬ ((cl[k]!.Client) = (l[k]!.Client)))) = false from Bp.dec.ff (fun k => k h53)]) ?_
          refine OPS.batch 7 { wraps := [56] } [.int .i64 (cl[k]!.Op), .int .i64 (l[k]!.Op)] [0, 1, 5, 6, 7, 8, 57] [.slice aw l.length cw, .slice a n c, .int .i64 (k : Int), .pointer (some ⟨g37, 0, none⟩), .pointer (some ⟨g47, 0, none⟩), .int .i64 ((l[k]!.Value.n : Nat) : Int), .bool (decide (¬ ((cl[k]!.Op) = (l[k]!.Op))))] (.cons (Ld.row1 (P := Try.prog) (t := 2) (o := 1) (v := .int .i64 (cl[k]!.Op)) hp49.get1 (by kernel_rfl)) (.cons (Ld.row1 (P := Try.prog) (t := 2) (o := 1) (v := .int .i64 (l[k]!.Op)) hp49.get0 (by kernel_rfl)) .nil)) (by kernel_rfl) (fun b57 => ?_)
          by_cases h58 : (cl[k]!.Op) = (l[k]!.Op)
          · refine OPS.batch 0 {} [] [0, 1, 5, 6, 7, 8, 57] [.slice aw l.length cw, .slice a n c, .int .i64 (k : Int), .pointer (some ⟨g37, 0, none⟩), .pointer (some ⟨g47, 0, none⟩), .int .i64 ((l[k]!.Value.n : Nat) : Int), .bool (decide (¬ ((cl[k]!.Op) = (l[k]!.Op))))] .nil (by kernel_rfl) (fun b61 => ?_)
            refine OPS.re [.slice aw l.length cw, .slice a n c, .int .i64 (k : Int), .pointer (some ⟨g37, 0, none⟩), .pointer (some ⟨g47, 0, none⟩), .int .i64 ((l[k]!.Value.n : Nat) : Int), .bool false] (by rw [show (decide (¬ ((cl[k]!.Op) = (l[k]!.Op)))) = false from Bp.dec.ff (fun k => k h58)]) ?_
            refine OPS.batch 7 { wraps := [63] } [.bool (cl[k]!.Put), .bool (l[k]!.Put)] [0, 1, 5, 6, 7, 8, 64] [.slice aw l.length cw, .slice a n c, .int .i64 (k : Int), .pointer (some ⟨g37, 0, none⟩), .pointer (some ⟨g47, 0, none⟩), .int .i64 ((l[k]!.Value.n : Nat) : Int), .bool (!((cl[k]!.Put) == (l[k]!.Put)))] (.cons (Ld.row1 (P := Try.prog) (t := 4) (o := 2) (v := .bool (cl[k]!.Put)) hp49.get1 (by kernel_rfl)) (.cons (Ld.row1 (P := Try.prog) (t := 4) (o := 2) (v := .bool (l[k]!.Put)) hp49.get0 (by kernel_rfl)) .nil)) (by kernel_rfl) (fun b62 => ?_)
            by_cases h63 : (((cl[k]!.Put) = true) ↔ ((l[k]!.Put) = true))
            · refine OPS.batch 0 {} [] [0, 1, 5, 6, 7, 8, 64] [.slice aw l.length cw, .slice a n c, .int .i64 (k : Int), .pointer (some ⟨g37, 0, none⟩), .pointer (some ⟨g47, 0, none⟩), .int .i64 ((l[k]!.Value.n : Nat) : Int), .bool (!((cl[k]!.Put) == (l[k]!.Put)))] .nil (by kernel_rfl) (fun b66 => ?_)
              refine OPS.re [.slice aw l.length cw, .slice a n c, .int .i64 (k : Int), .pointer (some ⟨g37, 0, none⟩), .pointer (some ⟨g47, 0, none⟩), .int .i64 ((l[k]!.Value.n : Nat) : Int), .bool false] (by rw [show (!((cl[k]!.Put) == (l[k]!.Put))) = false from (Bp.not (Bp.beq Bp.var Bp.var)).ff (fun k => k h63)]) ?_
              refine OPS.batch 7 { wraps := [70] } [.string (cl[k]!.Key), .string (l[k]!.Key)] [0, 1, 5, 6, 7, 8, 71] [.slice aw l.length cw, .slice a n c, .int .i64 (k : Int), .pointer (some ⟨g37, 0, none⟩), .pointer (some ⟨g47, 0, none⟩), .int .i64 ((l[k]!.Value.n : Nat) : Int), .bool (decide (¬ ((cl[k]!.Key) = (l[k]!.Key))))] (.cons (Ld.row1 (P := Try.prog) (t := 9) (o := 3) (v := .string (cl[k]!.Key)) hp49.get1 (by kernel_rfl)) (.cons (Ld.row1 (P := Try.prog) (t := 9) (o := 3) (v := .string (l[k]!.Key)) hp49.get0 (by kernel_rfl)) .nil)) (by kernel_rfl) (fun b67 => ?_)
              by_cases h68 : (cl[k]!.Key) = (l[k]!.Key)
              · refine OPS.batch 0 {} [] [0, 1, 5, 6, 7, 8, 71] [.slice aw l.length cw, .slice a n c, .int .i64 (k : Int), .pointer (some ⟨g37, 0, none⟩), .pointer (some ⟨g47, 0, none⟩), .int .i64 ((l[k]!.Value.n : Nat) : Int), .bool (decide (¬ ((cl[k]!.Key) = (l[k]!.Key))))] .nil (by kernel_rfl) (fun b71 => ?_)
                refine OPS.re [.slice aw l.length cw, .slice a n c, .int .i64 (k : Int), .pointer (some ⟨g37, 0, none⟩), .pointer (some ⟨g47, 0, none⟩), .int .i64 ((l[k]!.Value.n : Nat) : Int), .bool false] (by rw [show (decide (¬ ((cl[k]!.Key) = (l[k]!.Key)))) = false from Bp.dec.ff (fun k => k h68)]) ?_
                refine OPS.batch 9 { wraps := [79] } [.slice (cl[k]!.Value.a) (cl[k]!.Value.n) (cl[k]!.Value.c), .string (valAt w cl[k]!.Value), .slice (l[k]!.Value.a) (l[k]!.Value.n) (l[k]!.Value.c), .string (valAt w l[k]!.Value)] [0, 1, 5, 6, 7, 8, 80] [.slice aw l.length cw, .slice a n c, .int .i64 (k : Int), .pointer (some ⟨g37, 0, none⟩), .pointer (some ⟨g47, 0, none⟩), .int .i64 ((l[k]!.Value.n : Nat) : Int), .bool (decide (¬ ((valAt w cl[k]!.Value) = (valAt w l[k]!.Value))))] (.cons (Ld.row1 (P := Try.prog) (t := 71) (o := 4) (v := .slice (cl[k]!.Value.a) (cl[k]!.Value.n) (cl[k]!.Value.c)) hp49.get1 (by kernel_rfl)) (.cons (VB.bs (P := Try.prog) (hvc cl[k]! (List.mem_of_getElem? hy33)) hp49) (.cons (Ld.row1 (P := Try.prog) (t := 71) (o := 4) (v := .slice (l[k]!.Value.a) (l[k]!.Value.n) (l[k]!.Value.c)) hp49.get0 (by kernel_rfl)) (.cons (VB.bs (P := Try.prog) (hv l[k]! (List.mem_of_getElem? hy43)) hp49) .nil)))) (by kernel_rfl) (fun b72 => ?_)
                by_cases h73 : (valAt w cl[k]!.Value) = (valAt w l[k]!.Value)
                · refine OPS.batch 0 {} [] [0, 1, 5, 6, 7, 8, 80] [.slice aw l.length cw, .slice a n c, .int .i64 (k : Int), .pointer (some ⟨g37, 0, none⟩), .pointer (some ⟨g47, 0, none⟩), .int .i64 ((l[k]!.Value.n : Nat) : Int), .bool (decide (¬ ((valAt w cl[k]!.Value) = (valAt w l[k]!.Value))))] .nil (by kernel_rfl) (fun b76 => ?_)
                  refine OPS.re [.slice aw l.length cw, .slice a n c, .int .i64 (k : Int), .pointer (some ⟨g37, 0, none⟩), .pointer (some ⟨g47, 0, none⟩), .int .i64 ((l[k]!.Value.n : Nat) : Int), .bool false] (by rw [show (decide (¬ ((valAt w cl[k]!.Value) = (valAt w l[k]!.Value)))) = false from Bp.dec.ff (fun k => k h73)]) ?_
                  refine OPS.batch 7 { wraps := [86] } [.int .i64 (cl[k]!.Status), .int .i64 (l[k]!.Status)] [0, 1, 5, 6, 7, 8, 87] [.slice aw l.length cw, .slice a n c, .int .i64 (k : Int), .pointer (some ⟨g37, 0, none⟩), .pointer (some ⟨g47, 0, none⟩), .int .i64 ((l[k]!.Value.n : Nat) : Int), .bool (decide (¬ ((cl[k]!.Status) = (l[k]!.Status))))] (.cons (Ld.row1 (P := Try.prog) (t := 25) (o := 5) (v := .int .i64 (cl[k]!.Status)) hp49.get1 (by kernel_rfl)) (.cons (Ld.row1 (P := Try.prog) (t := 25) (o := 5) (v := .int .i64 (l[k]!.Status)) hp49.get0 (by kernel_rfl)) .nil)) (by kernel_rfl) (fun b77 => ?_)
                  by_cases h78 : (cl[k]!.Status) = (l[k]!.Status)
                  · refine OPS.batch 0 {} [] [0, 1, 5, 6, 7, 8, 87] [.slice aw l.length cw, .slice a n c, .int .i64 (k : Int), .pointer (some ⟨g37, 0, none⟩), .pointer (some ⟨g47, 0, none⟩), .int .i64 ((l[k]!.Value.n : Nat) : Int), .bool (decide (¬ ((cl[k]!.Status) = (l[k]!.Status))))] .nil (by kernel_rfl) (fun b81 => ?_)
                    refine OPS.re [.slice aw l.length cw, .slice a n c, .int .i64 (k : Int), .pointer (some ⟨g37, 0, none⟩), .pointer (some ⟨g47, 0, none⟩), .int .i64 ((l[k]!.Value.n : Nat) : Int), .bool false] (by rw [show (decide (¬ ((cl[k]!.Status) = (l[k]!.Status)))) = false from Bp.dec.ff (fun k => k h78)]) ?_
                    refine OPS.batch 7 { wraps := [93] } [.int .i64 (cl[k]!.From), .int .i64 (l[k]!.From)] [0, 1, 5, 6, 7, 8, 94] [.slice aw l.length cw, .slice a n c, .int .i64 (k : Int), .pointer (some ⟨g37, 0, none⟩), .pointer (some ⟨g47, 0, none⟩), .int .i64 ((l[k]!.Value.n : Nat) : Int), .bool (decide (¬ ((cl[k]!.From) = (l[k]!.From))))] (.cons (Ld.row1 (P := Try.prog) (t := 3) (o := 6) (v := .int .i64 (cl[k]!.From)) hp49.get1 (by kernel_rfl)) (.cons (Ld.row1 (P := Try.prog) (t := 3) (o := 6) (v := .int .i64 (l[k]!.From)) hp49.get0 (by kernel_rfl)) .nil)) (by kernel_rfl) (fun b82 => ?_)
                    by_cases h83 : (cl[k]!.From) = (l[k]!.From)
                    · refine OPS.batch 0 {} [] [0, 1, 5, 6, 7, 8, 94] [.slice aw l.length cw, .slice a n c, .int .i64 (k : Int), .pointer (some ⟨g37, 0, none⟩), .pointer (some ⟨g47, 0, none⟩), .int .i64 ((l[k]!.Value.n : Nat) : Int), .bool (decide (¬ ((cl[k]!.From) = (l[k]!.From))))] .nil (by kernel_rfl) (fun b86 => ?_)
                      refine OPS.re [.slice aw l.length cw, .slice a n c, .int .i64 (k : Int), .pointer (some ⟨g37, 0, none⟩), .pointer (some ⟨g47, 0, none⟩), .int .i64 ((l[k]!.Value.n : Nat) : Int), .bool false] (by rw [show (decide (¬ ((cl[k]!.From) = (l[k]!.From)))) = false from Bp.dec.ff (fun k => k h83)]) ?_
                      refine OPS.batch 7 { wraps := [100] } [.int .i64 (cl[k]!.To), .int .i64 (l[k]!.To)] [0, 1, 5, 6, 7, 8, 101] [.slice aw l.length cw, .slice a n c, .int .i64 (k : Int), .pointer (some ⟨g37, 0, none⟩), .pointer (some ⟨g47, 0, none⟩), .int .i64 ((l[k]!.Value.n : Nat) : Int), .bool (decide (¬ ((cl[k]!.To) = (l[k]!.To))))] (.cons (Ld.row1 (P := Try.prog) (t := 3) (o := 7) (v := .int .i64 (cl[k]!.To)) hp49.get1 (by kernel_rfl)) (.cons (Ld.row1 (P := Try.prog) (t := 3) (o := 7) (v := .int .i64 (l[k]!.To)) hp49.get0 (by kernel_rfl)) .nil)) (by kernel_rfl) (fun b87 => ?_)
                      by_cases h88 : (cl[k]!.To) = (l[k]!.To)
                      · refine OPS.batch 0 {} [] [0, 1, 5, 6, 7, 8, 101] [.slice aw l.length cw, .slice a n c, .int .i64 (k : Int), .pointer (some ⟨g37, 0, none⟩), .pointer (some ⟨g47, 0, none⟩), .int .i64 ((l[k]!.Value.n : Nat) : Int), .bool (decide (¬ ((cl[k]!.To) = (l[k]!.To))))] .nil (by kernel_rfl) (fun b91 => ?_)
                        refine OPS.re [.slice aw l.length cw, .slice a n c, .int .i64 (k : Int), .pointer (some ⟨g37, 0, none⟩), .pointer (some ⟨g47, 0, none⟩), .int .i64 ((l[k]!.Value.n : Nat) : Int), .bool false] (by rw [show (decide (¬ ((cl[k]!.To) = (l[k]!.To)))) = false from Bp.dec.ff (fun k => k h88)]) ?_
                        refine OPS.batch 7 { wraps := [107] } [.bool (cl[k]!.Open), .bool (l[k]!.Open)] [0, 1, 5, 6, 7, 8, 108] [.slice aw l.length cw, .slice a n c, .int .i64 (k : Int), .pointer (some ⟨g37, 0, none⟩), .pointer (some ⟨g47, 0, none⟩), .int .i64 ((l[k]!.Value.n : Nat) : Int), .bool (!((cl[k]!.Open) == (l[k]!.Open)))] (.cons (Ld.row1 (P := Try.prog) (t := 4) (o := 8) (v := .bool (cl[k]!.Open)) hp49.get1 (by kernel_rfl)) (.cons (Ld.row1 (P := Try.prog) (t := 4) (o := 8) (v := .bool (l[k]!.Open)) hp49.get0 (by kernel_rfl)) .nil)) (by kernel_rfl) (fun b92 => ?_)
                        by_cases h93 : (((cl[k]!.Open) = true) ↔ ((l[k]!.Open) = true))
                        · refine OPS.batch 0 {} [] [0, 1, 5, 6, 7, 8, 108] [.slice aw l.length cw, .slice a n c, .int .i64 (k : Int), .pointer (some ⟨g37, 0, none⟩), .pointer (some ⟨g47, 0, none⟩), .int .i64 ((l[k]!.Value.n : Nat) : Int), .bool (!((cl[k]!.Open) == (l[k]!.Open)))] .nil (by kernel_rfl) (fun b96 => ?_)
                          refine OPS.re [.slice aw l.length cw, .slice a n c, .int .i64 (k : Int), .pointer (some ⟨g37, 0, none⟩), .pointer (some ⟨g47, 0, none⟩), .int .i64 ((l[k]!.Value.n : Nat) : Int), .bool false] (by rw [show (!((cl[k]!.Open) == (l[k]!.Open))) = false from (Bp.not (Bp.beq Bp.var Bp.var)).ff (fun k => k h93)]) ?_
                          refine OPS.batch 6 { wraps := [114] } [.agg #[.int .i64 (cl[k]!.Tag.Count), .int .i64 (cl[k]!.Tag.Client)], .agg #[.int .i64 (l[k]!.Tag.Count), .int .i64 (l[k]!.Tag.Client)]] [0, 1, 5, 6, 8, 114] [.slice aw l.length cw, .slice a n c, .int .i64 (k : Int), .pointer (some ⟨g37, 0, none⟩), .int .i64 ((l[k]!.Value.n : Nat) : Int), .bool (!((decide ((cl[k]!.Tag.Count) = (l[k]!.Tag.Count))) && ((decide ((cl[k]!.Tag.Client) = (l[k]!.Tag.Client))) && true)))] (.cons (show Ld Try.prog w48 70 ⟨g37, 9, none⟩ (.agg #[.int .i64 (cl[k]!.Tag.Count), .int .i64 (cl[k]!.Tag.Client)]) from Ld.rowN (cs := [.int .i64 (cl[k]!.Tag.Count), .int .i64 (cl[k]!.Tag.Client)]) hp49.get1 (by kernel_rfl)) (.cons (show Ld Try.prog w48 70 ⟨g47, 9, none⟩ (.agg #[.int .i64 (l[k]!.Tag.Count), .int .i64 (l[k]!.Tag.Client)]) from Ld.rowN (cs := [.int .i64 (l[k]!.Tag.Count), .int .i64 (l[k]!.Tag.Client)]) hp49.get0 (by kernel_rfl)) .nil)) (by kernel_rfl) (fun b97 => ?_)
                          refine OPS.nil ?_
                          refine thn_n ?_
                          exact ⟨!((decide ((cl[k]!.Tag.Count) = (l[k]!.Tag.Count))) && ((decide ((cl[k]!.Tag.Client) = (l[k]!.Tag.Client))) && true)), trivial, Bp.of (Bp.not (Bp.band Bp.dec (Bp.band1 Bp.dec))) (by first | (simp only [h53, h58, h63, h68, h73, h78, h83, h88, h93, iff_false, false_iff, iff_true, true_iff, Classical.not_not, and_true, true_and, and_false, false_and, or_true, true_or, or_false, false_or, not_true_eq_false, not_false_eq_true, and_self, or_self, iff_self]; done) | (simp [h53, h58, h63, h68, h73, h78, h83, h88, h93]; done) | grind | (simp_all; done)), by kernel_rfl, hp49⟩
                        · refine OPS.batch 0 {} [] [0, 1, 5, 6, 7, 8, 108] [.slice aw l.length cw, .slice a n c, .int .i64 (k : Int), .pointer (some ⟨g37, 0, none⟩), .pointer (some ⟨g47, 0, none⟩), .int .i64 ((l[k]!.Value.n : Nat) : Int), .bool (!((cl[k]!.Open) == (l[k]!.Open)))] .nil (by kernel_rfl) (fun b94 => ?_)
                          refine OPS.re [.slice aw l.length cw, .slice a n c, .int .i64 (k : Int), .pointer (some ⟨g37, 0, none⟩), .pointer (some ⟨g47, 0, none⟩), .int .i64 ((l[k]!.Value.n : Nat) : Int), .bool true] (by rw [show (!((cl[k]!.Open) == (l[k]!.Open))) = true from (Bp.not (Bp.beq Bp.var Bp.var)).tt h93]) ?_
                          refine OPS.batch 6 { wraps := [114] } [] [0, 1, 5, 6, 8, 114] [.slice aw l.length cw, .slice a n c, .int .i64 (k : Int), .pointer (some ⟨g37, 0, none⟩), .int .i64 ((l[k]!.Value.n : Nat) : Int), .bool true] .nil (by kernel_rfl) (fun b95 => ?_)
                          refine OPS.nil ?_
                          refine thn_n ?_
                          exact ⟨true, trivial, Bp.of Bp.t (by first | (simp only [h53, h58, h63, h68, h73, h78, h83, h88, h93, iff_false, false_iff, iff_true, true_iff, Classical.not_not, and_true, true_and, and_false, false_and, or_true, true_or, or_false, false_or, not_true_eq_false, not_false_eq_true, and_self, or_self, iff_self]; done) | (simp [h53, h58, h63, h68, h73, h78, h83, h88, h93]; done) | grind | (simp_all; done)), by kernel_rfl, hp49⟩
                      · refine OPS.batch 0 {} [] [0, 1, 5, 6, 7, 8, 101] [.slice aw l.length cw, .slice a n c, .int .i64 (k : Int), .pointer (some ⟨g37, 0, none⟩), .pointer (some ⟨g47, 0, none⟩), .int .i64 ((l[k]!.Value.n : Nat) : Int), .bool (decide (¬ ((cl[k]!.To) = (l[k]!.To))))] .nil (by kernel_rfl) (fun b89 => ?_)
                        refine OPS.re [.slice aw l.length cw, .slice a n c, .int .i64 (k : Int), .pointer (some ⟨g37, 0, none⟩), .pointer (some ⟨g47, 0, none⟩), .int .i64 ((l[k]!.Value.n : Nat) : Int), .bool true] (by rw [show (decide (¬ ((cl[k]!.To) = (l[k]!.To)))) = true from Bp.dec.tt h88]) ?_
                        refine OPS.batch 13 { wraps := [107, 114] } [] [0, 1, 5, 6, 8, 114] [.slice aw l.length cw, .slice a n c, .int .i64 (k : Int), .pointer (some ⟨g37, 0, none⟩), .int .i64 ((l[k]!.Value.n : Nat) : Int), .bool true] .nil (by kernel_rfl) (fun b90 => ?_)
                        refine OPS.nil ?_
                        refine thn_n ?_
                        exact ⟨true, trivial, Bp.of Bp.t (by first | (simp only [h53, h58, h63, h68, h73, h78, h83, h88, iff_false, false_iff, iff_true, true_iff, Classical.not_not, and_true, true_and, and_false, false_and, or_true, true_or, or_false, false_or, not_true_eq_false, not_false_eq_true, and_self, or_self, iff_self]; done) | (simp [h53, h58, h63, h68, h73, h78, h83, h88]; done) | grind | (simp_all; done)), by kernel_rfl, hp49⟩
                    · refine OPS.batch 0 {} [] [0, 1, 5, 6, 7, 8, 94] [.slice aw l.length cw, .slice a n c, .int .i64 (k : Int), .pointer (some ⟨g37, 0, none⟩), .pointer (some ⟨g47, 0, none⟩), .int .i64 ((l[k]!.Value.n : Nat) : Int), .bool (decide (¬ ((cl[k]!.From) = (l[k]!.From))))] .nil (by kernel_rfl) (fun b84 => ?_)
                      refine OPS.re [.slice aw l.length cw, .slice a n c, .int .i64 (k : Int), .pointer (some ⟨g37, 0, none⟩), .pointer (some ⟨g47, 0, none⟩), .int .i64 ((l[k]!.Value.n : Nat) : Int), .bool true] (by rw [show (decide (¬ ((cl[k]!.From) = (l[k]!.From)))) = true from Bp.dec.tt h83]) ?_
                      refine OPS.batch 20 { wraps := [100, 107, 114] } [] [0, 1, 5, 6, 8, 114] [.slice aw l.length cw, .slice a n c, .int .i64 (k : Int), .pointer (some ⟨g37, 0, none⟩), .int .i64 ((l[k]!.Value.n : Nat) : Int), .bool true] .nil (by kernel_rfl) (fun b85 => ?_)
                      refine OPS.nil ?_
                      refine thn_n ?_
                      exact ⟨true, trivial, Bp.of Bp.t (by first | (simp only [h53, h58, h63, h68, h73, h78, h83, iff_false, false_iff, iff_true, true_iff, Classical.not_not, and_true, true_and, and_false, false_and, or_true, true_or, or_false, false_or, not_true_eq_false, not_false_eq_true, and_self, or_self, iff_self]; done) | (simp [h53, h58, h63, h68, h73, h78, h83]; done) | grind | (simp_all; done)), by kernel_rfl, hp49⟩
                  · refine OPS.batch 0 {} [] [0, 1, 5, 6, 7, 8, 87] [.slice aw l.length cw, .slice a n c, .int .i64 (k : Int), .pointer (some ⟨g37, 0, none⟩), .pointer (some ⟨g47, 0, none⟩), .int .i64 ((l[k]!.Value.n : Nat) : Int), .bool (decide (¬ ((cl[k]!.Status) = (l[k]!.Status))))] .nil (by kernel_rfl) (fun b79 => ?_)
                    refine OPS.re [.slice aw l.length cw, .slice a n c, .int .i64 (k : Int), .pointer (some ⟨g37, 0, none⟩), .pointer (some ⟨g47, 0, none⟩), .int .i64 ((l[k]!.Value.n : Nat) : Int), .bool true] (by rw [show (decide (¬ ((cl[k]!.Status) = (l[k]!.Status)))) = true from Bp.dec.tt h78]) ?_
                    refine OPS.batch 27 { wraps := [93, 100, 107, 114] } [] [0, 1, 5, 6, 8, 114] [.slice aw l.length cw, .slice a n c, .int .i64 (k : Int), .pointer (some ⟨g37, 0, none⟩), .int .i64 ((l[k]!.Value.n : Nat) : Int), .bool true] .nil (by kernel_rfl) (fun b80 => ?_)
                    refine OPS.nil ?_
                    refine thn_n ?_
                    exact ⟨true, trivial, Bp.of Bp.t (by first | (simp only [h53, h58, h63, h68, h73, h78, iff_false, false_iff, iff_true, true_iff, Classical.not_not, and_true, true_and, and_false, false_and, or_true, true_or, or_false, false_or, not_true_eq_false, not_false_eq_true, and_self, or_self, iff_self]; done) | (simp [h53, h58, h63, h68, h73, h78]; done) | grind | (simp_all; done)), by kernel_rfl, hp49⟩
                · refine OPS.batch 0 {} [] [0, 1, 5, 6, 7, 8, 80] [.slice aw l.length cw, .slice a n c, .int .i64 (k : Int), .pointer (some ⟨g37, 0, none⟩), .pointer (some ⟨g47, 0, none⟩), .int .i64 ((l[k]!.Value.n : Nat) : Int), .bool (decide (¬ ((valAt w cl[k]!.Value) = (valAt w l[k]!.Value))))] .nil (by kernel_rfl) (fun b74 => ?_)
                  refine OPS.re [.slice aw l.length cw, .slice a n c, .int .i64 (k : Int), .pointer (some ⟨g37, 0, none⟩), .pointer (some ⟨g47, 0, none⟩), .int .i64 ((l[k]!.Value.n : Nat) : Int), .bool true] (by rw [show (decide (¬ ((valAt w cl[k]!.Value) = (valAt w l[k]!.Value)))) = true from Bp.dec.tt h73]) ?_
                  refine OPS.batch 34 { wraps := [86, 93, 100, 107, 114] } [] [0, 1, 5, 6, 8, 114] [.slice aw l.length cw, .slice a n c, .int .i64 (k : Int), .pointer (some ⟨g37, 0, none⟩), .int .i64 ((l[k]!.Value.n : Nat) : Int), .bool true] .nil (by kernel_rfl) (fun b75 => ?_)
                  refine OPS.nil ?_
                  refine thn_n ?_
                  exact ⟨true, trivial, Bp.of Bp.t (by first | (simp only [h53, h58, h63, h68, h73, iff_false, false_iff, iff_true, true_iff, Classical.not_not, and_true, true_and, and_false, false_and, or_true, true_or, or_false, false_or, not_true_eq_false, not_false_eq_true, and_self, or_self, iff_self]; done) | (simp [h53, h58, h63, h68, h73]; done) | grind | (simp_all; done)), by kernel_rfl, hp49⟩
              · refine OPS.batch 0 {} [] [0, 1, 5, 6, 7, 8, 71] [.slice aw l.length cw, .slice a n c, .int .i64 (k : Int), .pointer (some ⟨g37, 0, none⟩), .pointer (some ⟨g47, 0, none⟩), .int .i64 ((l[k]!.Value.n : Nat) : Int), .bool (decide (¬ ((cl[k]!.Key) = (l[k]!.Key))))] .nil (by kernel_rfl) (fun b69 => ?_)
                refine OPS.re [.slice aw l.length cw, .slice a n c, .int .i64 (k : Int), .pointer (some ⟨g37, 0, none⟩), .pointer (some ⟨g47, 0, none⟩), .int .i64 ((l[k]!.Value.n : Nat) : Int), .bool true] (by rw [show (decide (¬ ((cl[k]!.Key) = (l[k]!.Key)))) = true from Bp.dec.tt h68]) ?_
                refine OPS.batch 43 { wraps := [79, 86, 93, 100, 107, 114] } [] [0, 1, 5, 6, 8, 114] [.slice aw l.length cw, .slice a n c, .int .i64 (k : Int), .pointer (some ⟨g37, 0, none⟩), .int .i64 ((l[k]!.Value.n : Nat) : Int), .bool true] .nil (by kernel_rfl) (fun b70 => ?_)
                refine OPS.nil ?_
                refine thn_n ?_
                exact ⟨true, trivial, Bp.of Bp.t (by first | (simp only [h53, h58, h63, h68, iff_false, false_iff, iff_true, true_iff, Classical.not_not, and_true, true_and, and_false, false_and, or_true, true_or, or_false, false_or, not_true_eq_false, not_false_eq_true, and_self, or_self, iff_self]; done) | (simp [h53, h58, h63, h68]; done) | grind | (simp_all; done)), by kernel_rfl, hp49⟩
            · refine OPS.batch 0 {} [] [0, 1, 5, 6, 7, 8, 64] [.slice aw l.length cw, .slice a n c, .int .i64 (k : Int), .pointer (some ⟨g37, 0, none⟩), .pointer (some ⟨g47, 0, none⟩), .int .i64 ((l[k]!.Value.n : Nat) : Int), .bool (!((cl[k]!.Put) == (l[k]!.Put)))] .nil (by kernel_rfl) (fun b64 => ?_)
              refine OPS.re [.slice aw l.length cw, .slice a n c, .int .i64 (k : Int), .pointer (some ⟨g37, 0, none⟩), .pointer (some ⟨g47, 0, none⟩), .int .i64 ((l[k]!.Value.n : Nat) : Int), .bool true] (by rw [show (!((cl[k]!.Put) == (l[k]!.Put))) = true from (Bp.not (Bp.beq Bp.var Bp.var)).tt h63]) ?_
              refine OPS.batch 50 { wraps := [70, 79, 86, 93, 100, 107, 114] } [] [0, 1, 5, 6, 8, 114] [.slice aw l.length cw, .slice a n c, .int .i64 (k : Int), .pointer (some ⟨g37, 0, none⟩), .int .i64 ((l[k]!.Value.n : Nat) : Int), .bool true] .nil (by kernel_rfl) (fun b65 => ?_)
              refine OPS.nil ?_
              refine thn_n ?_
              exact ⟨true, trivial, Bp.of Bp.t (by first | (simp only [h53, h58, h63, iff_false, false_iff, iff_true, true_iff, Classical.not_not, and_true, true_and, and_false, false_and, or_true, true_or, or_false, false_or, not_true_eq_false, not_false_eq_true, and_self, or_self, iff_self]; done) | (simp [h53, h58, h63]; done) | grind | (simp_all; done)), by kernel_rfl, hp49⟩
          · refine OPS.batch 0 {} [] [0, 1, 5, 6, 7, 8, 57] [.slice aw l.length cw, .slice a n c, .int .i64 (k : Int), .pointer (some ⟨g37, 0, none⟩), .pointer (some ⟨g47, 0, none⟩), .int .i64 ((l[k]!.Value.n : Nat) : Int), .bool (decide (¬ ((cl[k]!.Op) = (l[k]!.Op))))] .nil (by kernel_rfl) (fun b59 => ?_)
            refine OPS.re [.slice aw l.length cw, .slice a n c, .int .i64 (k : Int), .pointer (some ⟨g37, 0, none⟩), .pointer (some ⟨g47, 0, none⟩), .int .i64 ((l[k]!.Value.n : Nat) : Int), .bool true] (by rw [show (decide (¬ ((cl[k]!.Op) = (l[k]!.Op)))) = true from Bp.dec.tt h58]) ?_
            refine OPS.batch 57 { wraps := [63, 70, 79, 86, 93, 100, 107, 114] } [] [0, 1, 5, 6, 8, 114] [.slice aw l.length cw, .slice a n c, .int .i64 (k : Int), .pointer (some ⟨g37, 0, none⟩), .int .i64 ((l[k]!.Value.n : Nat) : Int), .bool true] .nil (by kernel_rfl) (fun b60 => ?_)
            refine OPS.nil ?_
            refine thn_n ?_
            exact ⟨true, trivial, Bp.of Bp.t (by first | (simp only [h53, h58, iff_false, false_iff, iff_true, true_iff, Classical.not_not, and_true, true_and, and_false, false_and, or_true, true_or, or_false, false_or, not_true_eq_false, not_false_eq_true, and_self, or_self, iff_self]; done) | (simp [h53, h58]; done) | grind | (simp_all; done)), by kernel_rfl, hp49⟩
        · refine OPS.batch 0 {} [] [0, 1, 5, 6, 7, 8, 50] [.slice aw l.length cw, .slice a n c, .int .i64 (k : Int), .pointer (some ⟨g37, 0, none⟩), .pointer (some ⟨g47, 0, none⟩), .int .i64 ((l[k]!.Value.n : Nat) : Int), .bool (decide (¬ ((cl[k]!.Client) = (l[k]!.Client))))] .nil (by kernel_rfl) (fun b54 => ?_)
          refine OPS.re [.slice aw l.length cw, .slice a n c, .int .i64 (k : Int), .pointer (some ⟨g37, 0, none⟩), .pointer (some ⟨g47, 0, none⟩), .int .i64 ((l[k]!.Value.n : Nat) : Int), .bool true] (by rw [show (decide (¬ ((cl[k]!.Client) = (l[k]!.Client)))) = true from Bp.dec.tt h53]) ?_
          refine OPS.batch 64 { wraps := [56, 63, 70, 79, 86, 93, 100, 107, 114] } [] [0, 1, 5, 6, 8, 114] [.slice aw l.length cw, .slice a n c, .int .i64 (k : Int), .pointer (some ⟨g37, 0, none⟩), .int .i64 ((l[k]!.Value.n : Nat) : Int), .bool true] .nil (by kernel_rfl) (fun b55 => ?_)
          refine OPS.nil ?_
          refine thn_n ?_
          exact ⟨true, trivial, Bp.of Bp.t (by first | (simp only [h53, iff_false, false_iff, iff_true, true_iff, Classical.not_not, and_true, true_and, and_false, false_and, or_true, true_or, or_false, false_or, not_true_eq_false, not_false_eq_true, and_self, or_self, iff_self]; done) | (simp [h53]; done) | grind | (simp_all; done)), by kernel_rfl, hp49⟩
      rintro e100 w101 ⟨x98, hd103, hb99, hE104, hp102⟩
      obtain ⟨b105, rfl⟩ := toMk hE104
      clear hE104
      clear hd103
      refine WP.test (p := ((¬ ((cl[k]!.Client) = (l[k]!.Client)))) ∨ (((cl[k]!.Client) = (l[k]!.Client)) ∧ (¬ ((cl[k]!.Op) = (l[k]!.Op)))) ∨ (((cl[k]!.Client) = (l[k]!.Client)) ∧ ((cl[k]!.Op) = (l[k]!.Op)) ∧ (¬ ((((cl[k]!.Put) = true) ↔ ((l[k]!.Put) = true))))) ∨ (((cl[k]!.Client) = (l[k]!.Client)) ∧ ((cl[k]!.Op) = (l[k]!.Op)) ∧ (((cl[k]!.Put) = true) ↔ ((l[k]!.Put) = true)) ∧ (¬ ((cl[k]!.Key) = (l[k]!.Key)))) ∨ (((cl[k]!.Client) = (l[k]!.Client)) ∧ ((cl[k]!.Op) = (l[k]!.Op)) ∧ (((cl[k]!.Put) = true) ↔ ((l[k]!.Put) = true)) ∧ ((cl[k]!.Key) = (l[k]!.Key)) ∧ (¬ ((valAt w cl[k]!.Value) = (valAt w l[k]!.Value)))) ∨ (((cl[k]!.Client) = (l[k]!.Client)) ∧ ((cl[k]!.Op) = (l[k]!.Op)) ∧ (((cl[k]!.Put) = true) ↔ ((l[k]!.Put) = true)) ∧ ((cl[k]!.Key) = (l[k]!.Key)) ∧ ((valAt w cl[k]!.Value) = (valAt w l[k]!.Value)) ∧ (¬ ((cl[k]!.Status) = (l[k]!.Status)))) ∨ (((cl[k]!.Client) = (l[k]!.Client)) ∧ ((cl[k]!.Op) = (l[k]!.Op)) ∧ (((cl[k]!.Put) = true) ↔ ((l[k]!.Put) = true)) ∧ ((cl[k]!.Key) = (l[k]!.Key)) ∧ ((valAt w cl[k]!.Value) = (valAt w l[k]!.Value)) ∧ ((cl[k]!.Status) = (l[k]!.Status)) ∧ (¬ ((cl[k]!.From) = (l[k]!.From)))) ∨ (((cl[k]!.Client) = (l[k]!.Client)) ∧ ((cl[k]!.Op) = (l[k]!.Op)) ∧ (((cl[k]!.Put) = true) ↔ ((l[k]!.Put) = true)) ∧ ((cl[k]!.Key) = (l[k]!.Key)) ∧ ((valAt w cl[k]!.Value) = (valAt w l[k]!.Value)) ∧ ((cl[k]!.Status) = (l[k]!.Status)) ∧ ((cl[k]!.From) = (l[k]!.From)) ∧ (¬ ((cl[k]!.To) = (l[k]!.To)))) ∨ (((cl[k]!.Client) = (l[k]!.Client)) ∧ ((cl[k]!.Op) = (l[k]!.Op)) ∧ (((cl[k]!.Put) = true) ↔ ((l[k]!.Put) = true)) ∧ ((cl[k]!.Key) = (l[k]!.Key)) ∧ ((valAt w cl[k]!.Value) = (valAt w l[k]!.Value)) ∧ ((cl[k]!.Status) = (l[k]!.Status)) ∧ ((cl[k]!.From) = (l[k]!.From)) ∧ ((cl[k]!.To) = (l[k]!.To)) ∧ (¬ ((((cl[k]!.Open) = true) ↔ ((l[k]!.Open) = true))))) ∨ (((cl[k]!.Client) = (l[k]!.Client)) ∧ ((cl[k]!.Op) = (l[k]!.Op)) ∧ (((cl[k]!.Put) = true) ↔ ((l[k]!.Put) = true)) ∧ ((cl[k]!.Key) = (l[k]!.Key)) ∧ ((valAt w cl[k]!.Value) = (valAt w l[k]!.Value)) ∧ ((cl[k]!.Status) = (l[k]!.Status)) ∧ ((cl[k]!.From) = (l[k]!.From)) ∧ ((cl[k]!.To) = (l[k]!.To)) ∧ (((cl[k]!.Open) = true) ↔ ((l[k]!.Open) = true)) ∧ (¬ (((cl[k]!.Tag.Count) = (l[k]!.Tag.Count)) ∧ ((cl[k]!.Tag.Client) = (l[k]!.Tag.Client)))))) rfl hb99 (fun h106 => ?_) (fun h106 => ?_)
      · refine WP.seq ?_
        refine WP.pure {} [] [4] [.bool false] .nil (by kernel_rfl) (fun b107 => ?_)
        refine thn_n ?_
        refine WP.ret ?_
        refine thn_r ?_
        refine blk_r ?_
        refine thn_r ?_
        refine thn_r ?_
        refine blk_r ?_
        refine thn_r ?_
        refine bodyQ.of _ rfl [.bool false] ⟨rfl, trivial⟩ ?_
        exfalso
        obtain ⟨e1, e2, e3, e4, e5, e6, e7, e8, e9⟩ := pq (by omega)
        have e10 := pv (by omega)
        have h_ := h106
        grind
      · refine WP.skip ?_
        refine thn_n ?_
        refine WP.seq ?_
        have pn3 := pn (by omega)
        clear h106 pq pv pn
        obtain ⟨pn4, pn5, pn6⟩ := pn3
        refine WP.pure {} [.slice (cl[k]!.Value.a) (cl[k]!.Value.n) (cl[k]!.Value.c)] [0, 1, 5, 8, 9] [.slice aw l.length cw, .slice a n c, .int .i64 (k : Int), .int .i64 ((l[k]!.Value.n : Nat) : Int), .slice (cl[k]!.Value.a) ((((l[k]!.Value.n : Nat) : Int) + 2 : Int).toNat) (cl[k]!.Value.c)] (.cons (Ld.row1 (P := Try.prog) (t := 71) (o := 4) (v := .slice (cl[k]!.Value.a) (cl[k]!.Value.n) (cl[k]!.Value.c)) hp102.get1 (by kernel_rfl)) (.cons (show Rng .i64 (((l[k]!.Value.n : Nat) : Int) + 2) from Rng.i64 (by omega)) (.cons (show (0 : Int) ≤ (((l[k]!.Value.n : Nat) : Int) + 2) ∧ (((l[k]!.Value.n : Nat) : Int) + 2) ≤ ((cl[k]!.Value.c : Nat) : Int) from ⟨by omega, by omega⟩) .nil))) (by kernel_rfl) (fun b108 => ?_)
        refine thn_n ?_
        refine WP.cut (fun e124 w125 => ∃ (x122 : Bool), (True) ∧ Bp x122 (((¬ (((bs[k]! ++ [193, 194])[(l[k]!.Value.n)]!) = 193))) ∨ ((((bs[k]! ++ [193, 194])[(l[k]!.Value.n)]!) = 193) ∧ (¬ (((bs[k]! ++ [193, 194])[(((l[k]!.Value.n : Nat) : Int) + 1 : Int).toNat]!) = 194)))) ∧ List.map e124 [0, 1, 5, 132] = [.slice aw l.length cw, .slice a n c, .int .i64 (k : Int), .bool x122] ∧ Hp w Non [Res.row g47 [.int .i64 (l[k]!.Client), .int .i64 (l[k]!.Op), .bool (l[k]!.Put), .string (l[k]!.Key), .slice (l[k]!.Value.a) (l[k]!.Value.n) (l[k]!.Value.c), .int .i64 (l[k]!.Status), .int .i64 (l[k]!.From), .int .i64 (l[k]!.To), .bool (l[k]!.Open), .int .i64 (l[k]!.Tag.Count), .int .i64 (l[k]!.Tag.Client)] 73, Res.row g37 [.int .i64 (cl[k]!.Client), .int .i64 (cl[k]!.Op), .bool (cl[k]!.Put), .string (cl[k]!.Key), .slice (cl[k]!.Value.a) (cl[k]!.Value.n) (cl[k]!.Value.c), .int .i64 (cl[k]!.Status), .int .i64 (cl[k]!.From), .int .i64 (cl[k]!.To), .bool (cl[k]!.Open), .int .i64 (cl[k]!.Tag.Count), .int .i64 (cl[k]!.Tag.Client)] 73] w125) ?_ ?_
        · refine WP.region _ rfl (by kernel_rfl) ?_
          have hy113 : ((bs[k]! ++ [193, 194]))[(l[k]!.Value.n)]? = some (bs[k]! ++ [193, 194])[(l[k]!.Value.n)]! := get_bang (by first | (omega) | (simp only [List.length_append, List.length_cons, List.length_nil]; omega) | (simp only [List.length_take, List.length_append, List.length_cons, List.length_nil]; omega))
          refine OPS.batch 6 {} [.int .u8 ((bs[k]! ++ [193, 194])[(l[k]!.Value.n)]!)] [0, 1, 5, 8, 9, 125] [.slice aw l.length cw, .slice a n c, .int .i64 (k : Int), .int .i64 ((l[k]!.Value.n : Nat) : Int), .slice (cl[k]!.Value.a) ((((l[k]!.Value.n : Nat) : Int) + 2 : Int).toNat) (cl[k]!.Value.c), .bool (decide (¬ (((bs[k]! ++ [193, 194])[(l[k]!.Value.n)]!) = 193)))] (.cons (show InB (((l[k]!.Value.n : Nat) : Int)) ((((l[k]!.Value.n : Nat) : Int) + 2 : Int).toNat) from ⟨by omega, by omega⟩) (.cons (((vw_at hvw (i := k) (m := (((l[k]!.Value.n : Nat) : Int) + 2 : Int).toNat) (by omega) (by omega)).at hp102).some (by omega)) (.cons (Ld.add0 (Ld.el1 (P := Try.prog) (t := 5) ((vw_at hvw (i := k) (m := (((l[k]!.Value.n : Nat) : Int) + 2 : Int).toNat) (by omega) (by omega)).at hp102).rd 1 (fun _ => rfl) hy113 (o := 0) (v := .int .u8 ((bs[k]! ++ [193, 194])[(l[k]!.Value.n)]!)) (by kernel_rfl))) .nil))) (by kernel_rfl) (fun b114 => ?_)
          by_cases h115 : ((bs[k]! ++ [193, 194])[(l[k]!.Value.n)]!) = 193
          · refine OPS.batch 0 {} [] [0, 1, 5, 8, 9, 125] [.slice aw l.length cw, .slice a n c, .int .i64 (k : Int), .int .i64 ((l[k]!.Value.n : Nat) : Int), .slice (cl[k]!.Value.a) ((((l[k]!.Value.n : Nat) : Int) + 2 : Int).toNat) (cl[k]!.Value.c), .bool (decide (¬ (((bs[k]! ++ [193, 194])[(l[k]!.Value.n)]!) = 193)))] .nil (by kernel_rfl) (fun b118 => ?_)
            refine OPS.re [.slice aw l.length cw, .slice a n c, .int .i64 (k : Int), .int .i64 ((l[k]!.Value.n : Nat) : Int), .slice (cl[k]!.Value.a) ((((l[k]!.Value.n : Nat) : Int) + 2 : Int).toNat) (cl[k]!.Value.c), .bool false] (by rw [show (decide (¬ (((bs[k]! ++ [193, 194])[(l[k]!.Value.n)]!) = 193))) = false from Bp.dec.ff (fun k => k h115)]) ?_
            have hy120 : ((bs[k]! ++ [193, 194]))[(((l[k]!.Value.n : Nat) : Int) + 1 : Int).toNat]? = some (bs[k]! ++ [193, 194])[(((l[k]!.Value.n : Nat) : Int) + 1 : Int).toNat]! := get_bang (by first | (omega) | (simp only [List.length_append, List.length_cons, List.length_nil]; omega) | (simp only [List.length_take, List.length_append, List.length_cons, List.length_nil]; omega))
            refine OPS.batch 7 { wraps := [132] } [.int .u8 ((bs[k]! ++ [193, 194])[(((l[k]!.Value.n : Nat) : Int) + 1 : Int).toNat]!)] [0, 1, 5, 132] [.slice aw l.length cw, .slice a n c, .int .i64 (k : Int), .bool (decide (¬ (((bs[k]! ++ [193, 194])[(((l[k]!.Value.n : Nat) : Int) + 1 : Int).toNat]!) = 194)))] (.cons (show Rng .i64 (((l[k]!.Value.n : Nat) : Int) + 1) from Rng.i64 (by omega)) (.cons (show InB (((l[k]!.Value.n : Nat) : Int) + 1) ((((l[k]!.Value.n : Nat) : Int) + 2 : Int).toNat) from ⟨by omega, by omega⟩) (.cons (((vw_at hvw (i := k) (m := (((l[k]!.Value.n : Nat) : Int) + 2 : Int).toNat) (by omega) (by omega)).at hp102).some (by omega)) (.cons (Ld.add0 (Ld.el1 (P := Try.prog) (t := 5) ((vw_at hvw (i := k) (m := (((l[k]!.Value.n : Nat) : Int) + 2 : Int).toNat) (by omega) (by omega)).at hp102).rd 1 (fun _ => rfl) hy120 (o := 0) (v := .int .u8 ((bs[k]! ++ [193, 194])[(((l[k]!.Value.n : Nat) : Int) + 1 : Int).toNat]!)) (by kernel_rfl))) .nil)))) (by kernel_rfl) (fun b121 => ?_)
            refine OPS.nil ?_
            refine thn_n ?_
            exact ⟨decide (¬ (((bs[k]! ++ [193, 194])[(((l[k]!.Value.n : Nat) : Int) + 1 : Int).toNat]!) = 194)), trivial, Bp.of Bp.dec (by first | (simp only [h115, iff_false, false_iff, iff_true, true_iff, Classical.not_not, and_true, true_and, and_false, false_and, or_true, true_or, or_false, false_or, not_true_eq_false, not_false_eq_true, and_self, or_self, iff_self]; done) | (simp [h115]; done) | grind | (simp_all; done)), by kernel_rfl, hp102⟩
          · refine OPS.batch 0 {} [] [0, 1, 5, 8, 9, 125] [.slice aw l.length cw, .slice a n c, .int .i64 (k : Int), .int .i64 ((l[k]!.Value.n : Nat) : Int), .slice (cl[k]!.Value.a) ((((l[k]!.Value.n : Nat) : Int) + 2 : Int).toNat) (cl[k]!.Value.c), .bool (decide (¬ (((bs[k]! ++ [193, 194])[(l[k]!.Value.n)]!) = 193)))] .nil (by kernel_rfl) (fun b116 => ?_)
            refine OPS.re [.slice aw l.length cw, .slice a n c, .int .i64 (k : Int), .int .i64 ((l[k]!.Value.n : Nat) : Int), .slice (cl[k]!.Value.a) ((((l[k]!.Value.n : Nat) : Int) + 2 : Int).toNat) (cl[k]!.Value.c), .bool true] (by rw [show (decide (¬ (((bs[k]! ++ [193, 194])[(l[k]!.Value.n)]!) = 193))) = true from Bp.dec.tt h115]) ?_
            refine OPS.batch 7 { wraps := [132] } [] [0, 1, 5, 132] [.slice aw l.length cw, .slice a n c, .int .i64 (k : Int), .bool true] .nil (by kernel_rfl) (fun b117 => ?_)
            refine OPS.nil ?_
            refine thn_n ?_
            exact ⟨true, trivial, Bp.of Bp.t (by first | (simp only [h115, iff_false, false_iff, iff_true, true_iff, Classical.not_not, and_true, true_and, and_false, false_and, or_true, true_or, or_false, false_or, not_true_eq_false, not_false_eq_true, and_self, or_self, iff_self]; done) | (simp [h115]; done) | grind | (simp_all; done)), by kernel_rfl, hp102⟩
        rintro e124 w125 ⟨x122, hd127, hb123, hE128, hp126⟩
        obtain ⟨b129, rfl⟩ := toMk hE128
        clear hE128
        clear hd127
        refine WP.test (p := ((¬ (((bs[k]! ++ [193, 194])[(l[k]!.Value.n)]!) = 193))) ∨ ((((bs[k]! ++ [193, 194])[(l[k]!.Value.n)]!) = 193) ∧ (¬ (((bs[k]! ++ [193, 194])[(((l[k]!.Value.n : Nat) : Int) + 1 : Int).toNat]!) = 194)))) rfl hb123 (fun h130 => ?_) (fun h130 => ?_)
        · refine WP.seq ?_
          refine WP.pure {} [] [4] [.bool false] .nil (by kernel_rfl) (fun b131 => ?_)
          refine thn_n ?_
          refine WP.ret ?_
          refine blk_r ?_
          refine thn_r ?_
          refine thn_r ?_
          refine blk_r ?_
          refine thn_r ?_
          refine bodyQ.of _ rfl [.bool false] ⟨rfl, trivial⟩ ?_
          exfalso
          obtain ⟨e1, e2⟩ := app_two (l := bs[k]!) pn6
          have h_ := h130
          rw [show (((l[k]!.Value.n : Nat) : Int) + 1 : Int).toNat = l[k]!.Value.n + 1 from by omega] at h_
          grind
        · refine WP.skip ?_
          refine blk_n ?_
          refine thn_n ?_
          refine WP.pure {} [] [0, 1, 5] [.slice aw l.length cw, .slice a n c, .int .i64 ((k : Int) + 1)] (.cons (show Rng .i64 ((k : Int) + 1) from Rng.i64 (by omega)) .nil) (by kernel_rfl) (fun b132 => ?_)
          refine thn_n ?_
          exact ⟨l.length - (k + 1), (by omega), k + 1, rfl, (by omega), by kernel_rfl, (hp126.sub (.cons _ (.cons _ (.slnil))))⟩
    · refine WP.exit ?_
      refine thn_x ?_
      refine thn_x ?_
      refine blk_hit ?_
      refine thn_n ?_
      refine WP.seq ?_
      refine WP.pure {} [] [4] [.bool true] .nil (by kernel_rfl) (fun b133 => ?_)
      refine thn_n ?_
      refine WP.ret ?_
      refine bodyQ.of _ rfl [.bool true] ⟨rfl, trivial⟩ ?_
      exact ⟨rfl, hp24.fr⟩

end Go.Proofs.Ytdahgdkadfdkeaa.K
