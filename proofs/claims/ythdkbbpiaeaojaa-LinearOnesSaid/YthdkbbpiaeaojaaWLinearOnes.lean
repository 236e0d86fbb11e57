/- The walks of WLinearOnes: what each function computes. -/
import Derived.Test.YthdkbbpiaeaojaaProg
import Derived.Test.YthdkbbpiaeaojaaCoreO
import Derived.Test.YthdkbbpiaeaojaaLinS
import Derived.Test.YthdkbbpiaeaojaaLinL
import Derived.Test.YthdkbbpiaeaojaaBitz
import Derived.Test.YthdkbbpiaeaojaaOpen
namespace Go.Proofs.Ythdkbbpiaeaojaa.K
open Go Go.Proofs Go.RowKit
set_option linter.unusedVariables false
set_option linter.unusedSimpArgs false
set_option maxRecDepth 20000
set_option maxHeartbeats 4000000

theorem ref_N (l : List GCall) (n : Nat) (hn : l.length = n) (a : Option Addr) (cp : Nat) (w : World) (hs : SlR w a n (l.flatMap GCall.cells)) (hv : ∀ x ∈ l, VB w x.Value) (hll : l.length ≤ 8796093022207) :
    Calls Try.prog 20 #[.slice a n cp] w (fun x w' => ∃ (xs : List Nat) (ok : Bool) (e : Int) (ao : Option Addr) (no co : Nat), x = .returned (.tuple #[.slice ao no co, .bool ok, .int .i64 e]) ∧ oneA (valAt w) l xs ok e ∧ Hp w Non [Res.own 3 1 (.slice ao no co) no (List.flatMap (fun (y : Nat) => [Go.Value.int .i64 (y : Int)]) xs)] w') := by
  subst hn
  exact ref_One l a cp w hs hv hll
def cpB (w0 : World) (l cl : List GCall) (bs : List (List Int)) (k : Nat) : Prop := cl.length = k ∧ bs.length = k ∧ ∀ i, i < k → (∃ h : SlH, cl[i]! = ⟨l[i]!.Client, l[i]!.Op, l[i]!.Put, l[i]!.Key, h, l[i]!.Status, l[i]!.From, l[i]!.To, l[i]!.Open, l[i]!.Tag⟩) ∧ bs[i]! = bytesAt w0 l[i]!.Value
theorem cpB_step {w0 : World} {l cl : List GCall} {bs : List (List Int)} {k : Nat} {x : GCall} {ns : List Int} (h : cpB w0 l cl bs k) (h1 : ∃ h : SlH, x = ⟨l[k]!.Client, l[k]!.Op, l[k]!.Put, l[k]!.Key, h, l[k]!.Status, l[k]!.From, l[k]!.To, l[k]!.Open, l[k]!.Tag⟩) (h2 : ns = bytesAt w0 l[k]!.Value) : cpB w0 l (cl ++ [x]) (bs ++ [ns]) (k + 1) := by
  obtain ⟨a, b, c⟩ := h
  refine ⟨by simp [a], by simp [b], fun i hi => ?_⟩
  rw [app_bang (by omega), app_bang (by omega)]
  by_cases hlt : i < k
  · rw [if_pos (by omega), if_pos (by omega)]; exact c i hlt
  · obtain rfl : i = k := by omega
    rw [if_neg (by omega), if_neg (by omega)]; exact ⟨h1, h2⟩
theorem cp_sim {w0 w : World} {l cl : List GCall} {bs : List (List Int)} {k : Nat} (h : cpB w0 l cl bs k) (hk : k = l.length) (hv : ∀ i, i < cl.length → valAt w cl[i]!.Value = strOf bs[i]!) : SimC (valAt w0) l (valAt w) cl := by
  obtain ⟨a, b, c⟩ := h
  have e : ∀ i, i < l.length → valAt w cl[i]!.Value = valAt w0 l[i]!.Value := fun i hi => by rw [hv i (by omega), (c i (by omega)).2]; rfl
  refine ⟨by omega, fun i hi => ?_, fun i hi => ?_, fun i hi => ?_, fun i hi => ?_, fun i hi => ?_, fun i j hi hj => by rw [e i hi, e j hj]⟩ <;> (obtain ⟨v, q⟩ := (c i (by omega)).1; rw [q])
theorem one_same {val : SlH → ByteArray} {l : List GCall} {xs ys : List Nat} {a b : Bool} {e f : Int} (h : oneA val l xs a e) (k : oneA val l ys b f) : xs = ys ∧ a = b ∧ e = f := by
  have q := (oneA_F h).trans (oneA_F k).symm
  simp only [Prod.mk.injEq] at q
  exact q
theorem one_len {val : SlH → ByteArray} {l : List GCall} {xs : List Nat} {ok : Bool} {e : Int} (h : oneA val l xs ok e) : xs.length ≤ l.length := by
  rcases h with ⟨_, _, _, rfl⟩ | ⟨_, _, _, _, rfl⟩ | ⟨_, _, _, ⟨_, h⟩ | ⟨_, rfl, _⟩⟩
  · simp
  · simp
  · have q := path_expl h.1
    exact nodup_le _ _ q.nd fun x hx => (q.mem x hx).1
  · simp
theorem cp_same {w0 W : World} {l cl : List GCall} {bs : List (List Int)} {k i : Nat} (h : cpB w0 l cl bs k) (hi : i < k) (hv : valAt W cl[i]!.Value = strOf bs[i]!) (hf : Fram Non w0 W) (hb : VB w0 l[i]!.Value) : VB W l[i]!.Value ∧ sameC (valAt W) cl[i]! l[i]! := by
  obtain ⟨b1, b2⟩ := hb.step hf
  obtain ⟨⟨v, q⟩, r⟩ := h.2.2 i hi
  have e : valAt W cl[i]!.Value = valAt W l[i]!.Value := by rw [hv, r, b2]; rfl
  refine ⟨b1, ?_, ?_, ?_, ?_, e, ?_, ?_, ?_, ?_, ?_, ?_⟩ <;> rw [q]
theorem slr_cut {w : World} {E n N c : Nat} {a : Option Addr} {cl : List GCall} {m : GCall} (h : (Res.own E 11 (.slice a N c) N (List.flatMap GCall.cells (cl ++ [m]))).holds w) (hn : cl.length = n) (hN : n ≤ N) : SlR w a n (List.flatMap GCall.cells cl) := by
  have q := slr_take2 (f := GCall.cells) (sz := 11) (k := n) (fun _ => rfl) (SlR.own h) hN
  rwa [List.take_left' hn] at q
theorem vm_at {w : World} {F : Nat → Prop} {cl : List GCall} {bs : List (List Int)} (h : (Res.vm F cl bs).holds w) {i m : Nat} (hi : i < cl.length) (hm : m = cl[i]!.Value.n + 1) : SlR w cl[i]!.Value.a m ((bs[i]! ++ [7]).flatMap u8c) := by
  obtain ⟨_, _, _, d⟩ := h.2 i hi
  subst hm
  exact d
theorem vm_len {w w0 : World} {F : Nat → Prop} {l cl : List GCall} {bs : List (List Int)} {k : Nat} (h : (Res.vm F cl bs).holds w) (hc : cpB w0 l cl bs k) {i : Nat} (hi : i < k) : cl[i]!.Value.n = l[i]!.Value.n ∧ cl[i]!.Value.n + 1 ≤ cl[i]!.Value.c ∧ bs[i]!.length = l[i]!.Value.n := by
  obtain ⟨h1, _, h3⟩ := hc
  obtain ⟨_, b, c, _⟩ := h.2 i (by omega)
  have e : bs[i]!.length = l[i]!.Value.n := by rw [(h3 i hi).2, bytesAt_len]
  exact ⟨by omega, c, e⟩
theorem last_bang {α : Type} [Inhabited α] {l : List α} {x : α} {n : Nat} (h : l.length = n) : (l ++ [x])[n]! = x := by
  rw [app_bang (by omega), if_neg (by omega)]
theorem take_last {α : Type} [Inhabited α] {l : List α} {x : α} {n k : Nat} (h : l.length = n) (hk : k = n + 1) : (List.take k (l ++ [x]))[n]! = x := by
  rw [List.take_of_length_le (by simp; omega), last_bang h]
theorem flat_natI (xs : List Nat) : List.flatMap (fun (y : Nat) => [Value.int .i64 (y : Int)]) xs = List.flatMap (fun (y : Int) => [Value.int .i64 y]) (xs.map fun (y : Nat) => (y : Int)) := by
  induction xs with
  | nil => rfl
  | cons x l ih => rw [List.flatMap_cons, List.map_cons, List.flatMap_cons, ih]
theorem same_T (c d : GCall) (w : World) (hc : VB w c.Value) (hd : VB w d.Value ∧ sameC (valAt w) c d) :
    Calls Try.prog 23 #[c.val, d.val] w (fun x w' => x = .returned (.bool true) ∧ Fram Non w w') := by
  refine (same_call c d w hc hd.1).mono ?_
  rintro _ w' ⟨f, rfl, hb, h⟩
  exact ⟨by rw [Bp.tt hb hd.2], h⟩

theorem LinearOnes {okp : GCall → Prop} (BN BV : Nat) (hBN : BN ≤ 1256584717421) (hBV : BV ≤ 140737488351232) (w : World) (s1 : SlH) (l1 : List GCall) (o1 : SlD w (α := GCall) GCall.cells okp BN s1 l1) (hv : ∀ x ∈ l1, VB w x.Value) (hvn : ∀ x ∈ l1, x.Value.n ≤ BV) :
    Calls Try.prog 5 #[.slice s1.a s1.n s1.c] w (fun x w' => x = .returned (.bool true) ∧ Fram Non w w') := by
  have hn1 := o1.len
  have hc1 := o1.cap
  have hd1 := o1.bnd
  refine calls_of Try.func5 rfl 146 rfl (by simp) ?_
  have hp0 := Hp.init w
  have he0 : List.map (env0 [.slice s1.a s1.n s1.c]) [0] = [.slice s1.a s1.n s1.c] := by kernel_rfl
  obtain ⟨b0, he0⟩ := toMk he0
  rw [he0]
  clear he0
  refine WP.seq ?_
  refine WP.pure {} [] [0] [.slice s1.a s1.n s1.c] .nil (by kernel_rfl) (fun b1 => ?_)
  refine thn_n ?_
  refine WP.seq ?_
  refine WP.region _ rfl (by kernel_rfl) ?_
  refine OPS.batch 1 {} [] [0, 19] [.slice s1.a s1.n s1.c, .slice s1.a s1.n s1.c] .nil (by kernel_rfl) (fun b2 => ?_)
  refine OPS.cons (opStep.call (some 20) [.slice s1.a s1.n s1.c] (by kernel_rfl) (ref_N l1 s1.n hn1.symm s1.a s1.c w o1.rd hv (by omega)) ?_)
  rintro _ w5 ⟨ys9, ok10, e11, ao12, no13, co14, rfl, hx7, hn8⟩
  refine ⟨_, rfl, ?_⟩
  have hp6 := hp0.made hn8
  have hxl_ := one_len hx7
  refine OPS.batch 7 {} [] [0, 3, 4, 5] [.slice s1.a s1.n s1.c, .slice ao12 no13 co14, .bool ok10, .int .i64 e11] .nil (by kernel_rfl) (fun b15 => ?_)
  refine OPS.nil ?_
  refine thn_n ?_
  refine WP.seq ?_
  refine WP.pure {} [] [0, 3, 4, 5, 6] [.slice s1.a s1.n s1.c, .slice ao12 no13 co14, .bool ok10, .int .i64 e11, .slice none 0 0] .nil (by kernel_rfl) (fun b16 => ?_)
  refine thn_n ?_
  refine WP.seq ?_
  refine WP.seq ?_
  refine WP.pure {} [] [0, 3, 4, 5, 6, 24, 25, 26] [.slice s1.a s1.n s1.c, .slice ao12 no13 co14, .bool ok10, .int .i64 e11, .slice none 0 0, .slice s1.a s1.n s1.c, .int .i64 ((s1.n : Nat) : Int), .int .i64 0] .nil (by kernel_rfl) (fun b17 => ?_)
  refine thn_n ?_
  refine WP.block ?_
  have hp18 := hp6.vmNil
  have hp19 := hp18.nilOwn 41 11
  rw [show ([] : List Go.Value) = List.flatMap GCall.cells ([] : List GCall) from rfl] at hp19
  refine WP.loop (fun mz_ e20 w21 => ∃ (k : Nat) (cl : List GCall) (bs : List (List Int)) (F : Nat → Prop) (ao : Option Addr) (no : Nat) (co : Nat), mz_ = l1.length - k ∧ (k ≤ l1.length ∧ cpB w l1 cl bs k) ∧ List.map e20 [0, 3, 4, 5, 6, 24, 25, 26] = [.slice s1.a s1.n s1.c, .slice ao12 no13 co14, .bool ok10, .int .i64 e11, .slice ao no co, .slice s1.a s1.n s1.c, .int .i64 ((s1.n : Nat) : Int), .int .i64 (k : Int)] ∧ Hp w Non [Res.own 41 11 (.slice ao no co) no (List.flatMap GCall.cells cl), Res.vm F cl bs, Res.own 3 1 (.slice ao12 no13 co14) no13 (List.flatMap (fun (y : Nat) => [Go.Value.int .i64 (y : Int)]) ys9)] w21) (l1.length - (0)) ⟨0, [], [], fun _ => False, none, 0, 0, rfl, ⟨by omega, rfl, rfl, fun i hi => by omega⟩, by kernel_rfl, hp19⟩ ?_
  rintro _ e20 w21 ⟨k, cl, bs, F, ao, no, co, rfl, hI23, hE24, hp22⟩
  obtain ⟨b25, rfl⟩ := toMk hE24
  clear hE24
  obtain ⟨pa, pb⟩ := hI23
  have pd := pb.1
  have pe := own_flat (sz := 11) (fun _ => rfl) (by decide) hp22.get0
  have pf : k < l1.length → l1[k]!.Value.n ≤ BV := fun q => hvn _ (List.mem_of_getElem? (get_bang q))
  refine WP.seq ?_
  refine WP.pure {} [] [0, 3, 4, 5, 6, 24, 25, 26, 27] [.slice s1.a s1.n s1.c, .slice ao12 no13 co14, .bool ok10, .int .i64 e11, .slice ao no co, .slice s1.a s1.n s1.c, .int .i64 ((s1.n : Nat) : Int), .int .i64 (k : Int), .bool (decide ((k : Int) < ((s1.n : Nat) : Int)))] .nil (by kernel_rfl) (fun b26 => ?_)
  refine thn_n ?_
  refine WP.seq ?_
  refine WP.test (p := (k : Int) < ((s1.n : Nat) : Int)) rfl Bp.dec (fun h27 => ?_) (fun h27 => ?_)
  · refine WP.skip ?_
    refine thn_n ?_
    refine WP.seq ?_
    refine WP.block ?_
    refine WP.seq ?_
    refine WP.region _ rfl (by kernel_rfl) ?_
    have hy31 : (l1)[k]? = some l1[k]! := get_bang (by first | (omega) | (simp only [List.length_append, List.length_cons, List.length_nil]; omega) | (simp only [List.length_take, List.length_append, List.length_cons, List.length_nil]; omega))
    refine OPS.batch 2 {} [GCall.val (l1[k]!)] [0, 3, 4, 5, 6, 24, 25, 26, 29] [.slice s1.a s1.n s1.c, .slice ao12 no13 co14, .bool ok10, .int .i64 e11, .slice ao no co, .slice s1.a s1.n s1.c, .int .i64 ((s1.n : Nat) : Int), .int .i64 (k : Int), GCall.val (l1[k]!)] (.cons (show InB ((k : Int)) (s1.n) from ⟨by omega, by omega⟩) (.cons ((o1.rd.at hp22).some (by omega)) (.cons (Ld.add0 (Ld.elN (P := Try.prog) (t := 41) (o1.rd.at hp22).rd 11 (fun _ => rfl) hy31 (o := 0) (cs := [.int .i64 (l1[k]!.Client), .int .i64 (l1[k]!.Op), .bool (l1[k]!.Put), .string (l1[k]!.Key), .slice (l1[k]!.Value.a) (l1[k]!.Value.n) (l1[k]!.Value.c), .int .i64 (l1[k]!.Status), .int .i64 (l1[k]!.From), .int .i64 (l1[k]!.To), .bool (l1[k]!.Open), .int .i64 (l1[k]!.Tag.Count), .int .i64 (l1[k]!.Tag.Client)]) (by kernel_rfl))) .nil))) (by kernel_rfl) (fun b32 => ?_)
    refine OPS.cons (opStep.alloc hp22 [.int .i64 0, .int .i64 0, .bool false, .string ByteArray.empty, .slice none 0 0, .int .i64 0, .int .i64 0, .int .i64 0, .bool false, .int .i64 0, .int .i64 0] (by kernel_rfl) (fun g35 w33 hp34 => ?_))
    refine OPS.cons (opStep.store0 hp34 rfl [.int .i64 (l1[k]!.Client), .int .i64 (l1[k]!.Op), .bool (l1[k]!.Put), .string (l1[k]!.Key), .slice (l1[k]!.Value.a) (l1[k]!.Value.n) (l1[k]!.Value.c), .int .i64 (l1[k]!.Status), .int .i64 (l1[k]!.From), .int .i64 (l1[k]!.To), .bool (l1[k]!.Open), .int .i64 (l1[k]!.Tag.Count), .int .i64 (l1[k]!.Tag.Client)] [.int .i64 (l1[k]!.Client), .int .i64 (l1[k]!.Op), .bool (l1[k]!.Put), .string (l1[k]!.Key), .slice (l1[k]!.Value.a) (l1[k]!.Value.n) (l1[k]!.Value.c), .int .i64 (l1[k]!.Status), .int .i64 (l1[k]!.From), .int .i64 (l1[k]!.To), .bool (l1[k]!.Open), .int .i64 (l1[k]!.Tag.Count), .int .i64 (l1[k]!.Tag.Client)] (by kernel_rfl) (fun w36 hp37 => ?_))
    refine OPS.nil ?_
    refine thn_n ?_
    refine WP.seq ?_
    refine WP.region _ rfl (by kernel_rfl) ?_
    refine OPS.cons (opStep.buildSlice0 (E := 5) hp37 (by kernel_rfl) (fun g40 w38 hp39 => ?_))
    refine OPS.batch 2 {} [.slice (l1[k]!.Value.a) (l1[k]!.Value.n) (l1[k]!.Value.c)] [0, 3, 4, 5, 6, 8, 24, 25, 26, 30, 32] [.slice s1.a s1.n s1.c, .slice ao12 no13 co14, .bool ok10, .int .i64 e11, .slice ao no co, .pointer (some ⟨g35, 0, none⟩), .slice s1.a s1.n s1.c, .int .i64 ((s1.n : Nat) : Int), .int .i64 (k : Int), .slice (some ⟨g40, 0, none⟩) 0 0, .slice (l1[k]!.Value.a) (l1[k]!.Value.n) (l1[k]!.Value.c)] (.cons (Ld.row1 (P := Try.prog) (t := 39) (o := 4) (v := .slice (l1[k]!.Value.a) (l1[k]!.Value.n) (l1[k]!.Value.c)) hp39.get1 (by kernel_rfl)) .nil) (by kernel_rfl) (fun b41 => ?_)
    have hp44 := hp39.pull0
    have hp45 := (show Hp w Non [Res.own 5 1 (.slice (some ⟨g40, 0, none⟩) 0 0) 0 (List.flatMap u8c []), Res.row g35 [.int .i64 (l1[k]!.Client), .int .i64 (l1[k]!.Op), .bool (l1[k]!.Put), .string (l1[k]!.Key), .slice (l1[k]!.Value.a) (l1[k]!.Value.n) (l1[k]!.Value.c), .int .i64 (l1[k]!.Status), .int .i64 (l1[k]!.From), .int .i64 (l1[k]!.To), .bool (l1[k]!.Open), .int .i64 (l1[k]!.Tag.Count), .int .i64 (l1[k]!.Tag.Client)] 41, Res.own 41 11 (.slice ao no co) no (List.flatMap GCall.cells cl), Res.vm F cl bs, Res.own 3 1 (.slice ao12 no13 co14) no13 (List.flatMap (fun (y : Nat) => [Go.Value.int .i64 (y : Int)]) ys9)] w38 from hp44.rowOwn 1)
    refine OPS.cons (opStep.appendS (A := []) hp45 1 (by kernel_rfl) rfl rfl (SlR.at (hv l1[k]! (List.mem_of_getElem? hy31)) hp45) (flat_n (fun _ => rfl) (bytesAt_len _ _)) (one_flat (fun _ => rfl)) (by decide) (by omega) (by omega) (fun a46 c47 w48 hp49 => ?_))
    rw [show List.flatMap u8c [] ++ List.flatMap u8c (bytesAt w (l1[k]!.Value)) = List.flatMap u8c (bytesAt w (l1[k]!.Value)) from rfl] at hp49
    simp only [List.cons_append, List.nil_append] at hp49
    refine OPS.batch 1 {} [] [0, 3, 4, 5, 6, 8, 24, 25, 26, 33, 34] [.slice s1.a s1.n s1.c, .slice ao12 no13 co14, .bool ok10, .int .i64 e11, .slice ao no co, .pointer (some ⟨g35, 0, none⟩), .slice s1.a s1.n s1.c, .int .i64 ((s1.n : Nat) : Int), .int .i64 (k : Int), .slice a46 (0 + (l1[k]!.Value.n)) c47, .pointer (some ⟨g35, 4, none⟩)] .nil (by kernel_rfl) (fun b50 => ?_)
    refine OPS.cons (opStep.store1 hp49 rfl [.slice a46 (0 + (l1[k]!.Value.n)) c47] [.int .i64 (l1[k]!.Client), .int .i64 (l1[k]!.Op), .bool (l1[k]!.Put), .string (l1[k]!.Key), .slice a46 (0 + (l1[k]!.Value.n)) c47, .int .i64 (l1[k]!.Status), .int .i64 (l1[k]!.From), .int .i64 (l1[k]!.To), .bool (l1[k]!.Open), .int .i64 (l1[k]!.Tag.Count), .int .i64 (l1[k]!.Tag.Client)] (by kernel_rfl) (fun w51 hp52 => ?_))
    refine OPS.nil ?_
    refine thn_n ?_
    refine WP.seq ?_
    have hp53 := hp52.drew
    refine WP.held (fun w54 => Ld Try.prog w54 39 ⟨g35, 4, none⟩ (.slice a46 (0 + (l1[k]!.Value.n)) c47) ∧ True) [9] [(0, true), (1, true), (4, true), (5, true), (6, true), (2, false), (3, false), (7, true), (8, true), (9, false)] (np_thn (np_blk (np_thn (np_thn (np_blk (np_thn np_body)))))) (by kernel_rfl) ?_
    refine HOPS.take 5 {} [.slice a46 (0 + (l1[k]!.Value.n)) c47, .slice a46 (0 + (l1[k]!.Value.n)) c47] [0, 3, 4, 5, 6, 8, 24, 25, 26, 36, 41] [.slice s1.a s1.n s1.c, .slice ao12 no13 co14, .bool ok10, .int .i64 e11, .slice ao no co, .pointer (some ⟨g35, 0, none⟩), .slice s1.a s1.n s1.c, .int .i64 ((s1.n : Nat) : Int), .int .i64 (k : Int), .slice a46 (0 + (l1[k]!.Value.n)) c47, .int .i64 ((0 + (l1[k]!.Value.n) : Nat) : Int)] (by kernel_rfl) ⟨(show Ld Try.prog w51.drew 39 ⟨g35, 4, none⟩ (.slice a46 (0 + (l1[k]!.Value.n)) c47) from (Ld.row1 (P := Try.prog) (t := 39) (o := 4) (v := .slice a46 (0 + (l1[k]!.Value.n)) c47) hp53.get1 (by kernel_rfl))), trivial⟩ (fun w55 hS56 => QB.mk (.cons (hS56.1) (.cons (hS56.1) .nil)) (by kernel_rfl)) (fun b57 => ?_)
    refine HOPS.eff _ rfl (opStep.buildSlice (E := 5) hp53 [.int .u8 7] (by kernel_rfl) (fun g60 w58 hp59 => ?_))
    refine ⟨.inr ⟨(show Ld Try.prog w58 39 ⟨g35, 4, none⟩ (.slice a46 (0 + (l1[k]!.Value.n)) c47) from (Ld.row1 (P := Try.prog) (t := 39) (o := 4) (v := .slice a46 (0 + (l1[k]!.Value.n)) c47) hp59.get2 (by kernel_rfl))), trivial⟩, ?_⟩
    refine HOPS.eff _ rfl (opStep.append1 [.int .u8 7] hp59 1 (by kernel_rfl) rfl rfl rfl (SlR.row (n := 1) hp59.get0 rfl).rd (List.all_eq_true.1 (by kernel_rfl)) (by decide) (by omega) (by omega) (fun a63 c64 w65 hp66 hn67 => ?_))
    rw [(show List.flatMap u8c (bytesAt w (l1[k]!.Value)) ++ [.int .u8 7] = List.flatMap u8c ((bytesAt w (l1[k]!.Value)) ++ [7]) from (List.flatMap_append (xs := bytesAt w (l1[k]!.Value)) (ys := [7])).symm)] at hp66
    refine ⟨.inr ⟨(show Ld Try.prog w65 39 ⟨g35, 4, none⟩ (.slice a46 (0 + (l1[k]!.Value.n)) c47) from (Ld.row1 (P := Try.prog) (t := 39) (o := 4) (v := .slice a46 (0 + (l1[k]!.Value.n)) c47) hp66.get2 (by kernel_rfl))), trivial⟩, ?_⟩
    have := own_cap hp66.get1
    refine HOPS.take 2 {} [] [0, 3, 4, 5, 6, 8, 24, 25, 26, 42, 43] [.slice s1.a s1.n s1.c, .slice ao12 no13 co14, .bool ok10, .int .i64 e11, .slice ao no co, .pointer (some ⟨g35, 0, none⟩), .slice s1.a s1.n s1.c, .int .i64 ((s1.n : Nat) : Int), .int .i64 (k : Int), .slice a63 (0 + (l1[k]!.Value.n)) c64, .pointer (some ⟨g35, 4, none⟩)] (by kernel_rfl) ⟨(show Ld Try.prog w65 39 ⟨g35, 4, none⟩ (.slice a46 (0 + (l1[k]!.Value.n)) c47) from (Ld.row1 (P := Try.prog) (t := 39) (o := 4) (v := .slice a46 (0 + (l1[k]!.Value.n)) c47) hp66.get2 (by kernel_rfl))), trivial⟩ (fun w68 hS69 => QB.mk (.cons (show 0 ≤ ((0 + (l1[k]!.Value.n) : Nat) : Int) ∧ ((0 + (l1[k]!.Value.n) : Nat) : Int) ≤ ((c64 : Nat) : Int) from ⟨by omega, by omega⟩) .nil) (by kernel_rfl)) (fun b70 => ?_)
    refine HOPS.eff _ rfl (opStep.store2 hp66 rfl [.slice a63 (0 + (l1[k]!.Value.n)) c64] [.int .i64 (l1[k]!.Client), .int .i64 (l1[k]!.Op), .bool (l1[k]!.Put), .string (l1[k]!.Key), .slice a63 (0 + (l1[k]!.Value.n)) c64, .int .i64 (l1[k]!.Status), .int .i64 (l1[k]!.From), .int .i64 (l1[k]!.To), .bool (l1[k]!.Open), .int .i64 (l1[k]!.Tag.Count), .int .i64 (l1[k]!.Tag.Client)] (by kernel_rfl) (fun w71 hp72 => ?_))
    refine ⟨.inl rfl, ?_⟩
    refine HOPS.nil ?_
    refine thn_n ?_
    refine WP.region _ rfl (by kernel_rfl) ?_
    refine OPS.batch 2 {} [.agg #[.int .i64 (l1[k]!.Client), .int .i64 (l1[k]!.Op), .bool (l1[k]!.Put), .string (l1[k]!.Key), .slice a63 (0 + (l1[k]!.Value.n)) c64, .int .i64 (l1[k]!.Status), .int .i64 (l1[k]!.From), .int .i64 (l1[k]!.To), .bool (l1[k]!.Open), .int .i64 (l1[k]!.Tag.Count), .int .i64 (l1[k]!.Tag.Client)]] [0, 3, 4, 5, 24, 25, 26, 44, 45] [.slice s1.a s1.n s1.c, .slice ao12 no13 co14, .bool ok10, .int .i64 e11, .slice s1.a s1.n s1.c, .int .i64 ((s1.n : Nat) : Int), .int .i64 (k : Int), .slice ao no co, .agg #[.int .i64 (l1[k]!.Client), .int .i64 (l1[k]!.Op), .bool (l1[k]!.Put), .string (l1[k]!.Key), .slice a63 (0 + (l1[k]!.Value.n)) c64, .int .i64 (l1[k]!.Status), .int .i64 (l1[k]!.From), .int .i64 (l1[k]!.To), .bool (l1[k]!.Open), .int .i64 (l1[k]!.Tag.Count), .int .i64 (l1[k]!.Tag.Client)]] (.cons (show Ld Try.prog w71 41 ⟨g35, 0, none⟩ (.agg #[.int .i64 (l1[k]!.Client), .int .i64 (l1[k]!.Op), .bool (l1[k]!.Put), .string (l1[k]!.Key), .slice a63 (0 + (l1[k]!.Value.n)) c64, .int .i64 (l1[k]!.Status), .int .i64 (l1[k]!.From), .int .i64 (l1[k]!.To), .bool (l1[k]!.Open), .int .i64 (l1[k]!.Tag.Count), .int .i64 (l1[k]!.Tag.Client)]) from Ld.rowN (cs := [.int .i64 (l1[k]!.Client), .int .i64 (l1[k]!.Op), .bool (l1[k]!.Put), .string (l1[k]!.Key), .slice a63 (0 + (l1[k]!.Value.n)) c64, .int .i64 (l1[k]!.Status), .int .i64 (l1[k]!.From), .int .i64 (l1[k]!.To), .bool (l1[k]!.Open), .int .i64 (l1[k]!.Tag.Count), .int .i64 (l1[k]!.Tag.Client)]) hp72.get2 (by kernel_rfl)) .nil) (by kernel_rfl) (fun b73 => ?_)
    refine OPS.cons (opStep.buildSlice (E := 41) hp72 [.int .i64 (l1[k]!.Client), .int .i64 (l1[k]!.Op), .bool (l1[k]!.Put), .string (l1[k]!.Key), .slice a63 (0 + (l1[k]!.Value.n)) c64, .int .i64 (l1[k]!.Status), .int .i64 (l1[k]!.From), .int .i64 (l1[k]!.To), .bool (l1[k]!.Open), .int .i64 (l1[k]!.Tag.Count), .int .i64 (l1[k]!.Tag.Client)] (by kernel_rfl) (fun g76 w74 hp75 => ?_))
    refine OPS.cons (opStep.append4 [.int .i64 (l1[k]!.Client), .int .i64 (l1[k]!.Op), .bool (l1[k]!.Put), .string (l1[k]!.Key), .slice a63 (0 + (l1[k]!.Value.n)) c64, .int .i64 (l1[k]!.Status), .int .i64 (l1[k]!.From), .int .i64 (l1[k]!.To), .bool (l1[k]!.Open), .int .i64 (l1[k]!.Tag.Count), .int .i64 (l1[k]!.Tag.Client)] hp75 112 (by kernel_rfl) rfl rfl rfl (SlR.row (n := 1) hp75.get0 rfl).rd (List.all_eq_true.1 (by kernel_rfl)) (by decide) (by omega) (by omega) (fun a79 c80 w81 hp82 hn83 => ?_))
    rw [(show List.flatMap GCall.cells cl ++ [.int .i64 (l1[k]!.Client), .int .i64 (l1[k]!.Op), .bool (l1[k]!.Put), .string (l1[k]!.Key), .slice a63 (0 + (l1[k]!.Value.n)) c64, .int .i64 (l1[k]!.Status), .int .i64 (l1[k]!.From), .int .i64 (l1[k]!.To), .bool (l1[k]!.Open), .int .i64 (l1[k]!.Tag.Count), .int .i64 (l1[k]!.Tag.Client)] = List.flatMap GCall.cells (cl ++ [(⟨l1[k]!.Client, l1[k]!.Op, l1[k]!.Put, l1[k]!.Key, ⟨a63, (0 + (l1[k]!.Value.n)), c64⟩, l1[k]!.Status, l1[k]!.From, l1[k]!.To, l1[k]!.Open, (⟨l1[k]!.Tag.Count, l1[k]!.Tag.Client⟩ : GTag)⟩ : GCall)]) from (List.flatMap_append (xs := cl) (ys := [(⟨l1[k]!.Client, l1[k]!.Op, l1[k]!.Put, l1[k]!.Key, ⟨a63, (0 + (l1[k]!.Value.n)), c64⟩, l1[k]!.Status, l1[k]!.From, l1[k]!.To, l1[k]!.Open, (⟨l1[k]!.Tag.Count, l1[k]!.Tag.Client⟩ : GTag)⟩ : GCall)])).symm)] at hp82
    refine OPS.batch 1 {} [] [0, 3, 4, 5, 6, 24, 25, 26] [.slice s1.a s1.n s1.c, .slice ao12 no13 co14, .bool ok10, .int .i64 e11, .slice a79 (no + 1) c80, .slice s1.a s1.n s1.c, .int .i64 ((s1.n : Nat) : Int), .int .i64 (k : Int)] .nil (by kernel_rfl) (fun b84 => ?_)
    refine OPS.nil ?_
    refine blk_n ?_
    refine thn_n ?_
    refine WP.pure {} [] [0, 3, 4, 5, 6, 24, 25, 26] [.slice s1.a s1.n s1.c, .slice ao12 no13 co14, .bool ok10, .int .i64 e11, .slice a79 (no + 1) c80, .slice s1.a s1.n s1.c, .int .i64 ((s1.n : Nat) : Int), .int .i64 ((k : Int) + 1)] (.cons (show Rng .i64 ((k : Int) + 1) from Rng.i64 (by omega)) .nil) (by kernel_rfl) (fun b85 => ?_)
    refine thn_n ?_
    have hp86 := hp82.pull5
    have hp87 := hp86.pull3
    have hp88 := hp87.vmPush (⟨l1[k]!.Client, l1[k]!.Op, l1[k]!.Put, l1[k]!.Key, ⟨a63, (0 + (l1[k]!.Value.n)), c64⟩, l1[k]!.Status, l1[k]!.From, l1[k]!.To, l1[k]!.Open, (⟨l1[k]!.Tag.Count, l1[k]!.Tag.Client⟩ : GTag)⟩ : GCall) (by rw [bytesAt_len, Nat.zero_add]) rfl
    exact ⟨l1.length - (k + 1), (by omega), k + 1, cl ++ [(⟨l1[k]!.Client, l1[k]!.Op, l1[k]!.Put, l1[k]!.Key, ⟨a63, (0 + (l1[k]!.Value.n)), c64⟩, l1[k]!.Status, l1[k]!.From, l1[k]!.To, l1[k]!.Open, (⟨l1[k]!.Tag.Count, l1[k]!.Tag.Client⟩ : GTag)⟩ : GCall)], bs ++ [bytesAt w l1[k]!.Value], fun k_ => F k_ ∨ (Value.slice a63 (0 + (l1[k]!.Value.n) + 1) c64).ownBlock = some k_, a79, no + 1, c80, rfl, ⟨by omega, cpB_step pb ⟨_, rfl⟩ rfl⟩, by kernel_rfl, ((((hp88.pull5).pull1).pull5).sub (.cons_cons _ (.cons_cons _ (.cons_cons _ (.cons _ (.cons _ (.cons _ (.slnil))))))))⟩
  · refine WP.exit ?_
    refine thn_x ?_
    refine thn_x ?_
    refine blk_hit ?_
    refine thn_n ?_
    refine WP.seq ?_
    refine WP.region _ rfl (by kernel_rfl) ?_
    refine OPS.batch 2 {} [] [0, 3, 4, 5, 49, 50] [.slice s1.a s1.n s1.c, .slice ao12 no13 co14, .bool ok10, .int .i64 e11, .slice ao no co, .agg #[.int .i64 (-7), .int .i64 0, .bool false, .string ByteArray.empty, .slice none 0 0, .int .i64 0, .int .i64 0, .int .i64 0, .bool false, .int .i64 0, .int .i64 0]] .nil (by kernel_rfl) (fun b89 => ?_)
    refine OPS.cons (opStep.buildSlice (E := 41) hp22 [.int .i64 (-7), .int .i64 0, .bool false, .string ByteArray.empty, .slice none 0 0, .int .i64 0, .int .i64 0, .int .i64 0, .bool false, .int .i64 0, .int .i64 0] (by kernel_rfl) (fun g92 w90 hp91 => ?_))
    refine OPS.cons (opStep.append1 [.int .i64 (-7), .int .i64 0, .bool false, .string ByteArray.empty, .slice none 0 0, .int .i64 0, .int .i64 0, .int .i64 0, .bool false, .int .i64 0, .int .i64 0] hp91 112 (by kernel_rfl) rfl rfl rfl (SlR.row (n := 1) hp91.get0 rfl).rd (List.all_eq_true.1 (by kernel_rfl)) (by decide) (by omega) (by omega) (fun a95 c96 w97 hp98 hn99 => ?_))
    rw [(show List.flatMap GCall.cells cl ++ [.int .i64 (-7), .int .i64 0, .bool false, .string ByteArray.empty, .slice none 0 0, .int .i64 0, .int .i64 0, .int .i64 0, .bool false, .int .i64 0, .int .i64 0] = List.flatMap GCall.cells (cl ++ [(⟨(-7), 0, false, ByteArray.empty, ⟨none, 0, 0⟩, 0, 0, 0, false, (⟨0, 0⟩ : GTag)⟩ : GCall)]) from (List.flatMap_append (xs := cl) (ys := [(⟨(-7), 0, false, ByteArray.empty, ⟨none, 0, 0⟩, 0, 0, 0, false, (⟨0, 0⟩ : GTag)⟩ : GCall)])).symm)] at hp98
    have := own_cap hp98.get1
    refine OPS.batch 4 {} [] [0, 3, 4, 5, 6] [.slice s1.a s1.n s1.c, .slice ao12 no13 co14, .bool ok10, .int .i64 e11, .slice a95 s1.n c96] (.cons (show 0 ≤ ((s1.n : Nat) : Int) ∧ ((s1.n : Nat) : Int) ≤ ((c96 : Nat) : Int) from ⟨by omega, by omega⟩) .nil) (by kernel_rfl) (fun b100 => ?_)
    refine OPS.nil ?_
    refine thn_n ?_
    refine WP.seq ?_
    refine WP.region _ rfl (by kernel_rfl) ?_
    refine OPS.batch 1 {} [] [0, 3, 4, 5, 6, 57] [.slice s1.a s1.n s1.c, .slice ao12 no13 co14, .bool ok10, .int .i64 e11, .slice a95 s1.n c96, .slice a95 s1.n c96] .nil (by kernel_rfl) (fun b101 => ?_)
    have hk_ : k = l1.length := by omega
    have hf109 : SlR w97 a95 s1.n (List.flatMap GCall.cells cl) := by have q := slr_take2 (f := GCall.cells) (sz := 11) (k := s1.n) (fun _ => rfl) (SlR.own hp98.get1) (by omega); rwa [List.take_left' (by omega)] at q
    refine OPS.cons (opStep.call (some 58) [.slice a95 s1.n c96] (by kernel_rfl) (lin_OneN cl s1.n (by omega) a95 c96 _ hf109 (vm_mem hp98.get2) (by omega)) ?_)
    rintro _ w104 ⟨xs110, ok111, e112, ao113, no114, co115, rfl, hx106, hn107⟩
    obtain ⟨hz108_1, hz108_2, hz108_3⟩ := one_same hx106 ((cp_sim pb hk_ (fun i hi => (vm_vb hp98.get2 hi).2)).one hx7)
    subst hz108_1 hz108_2 hz108_3
    refine ⟨_, rfl, ?_⟩
    have hp105 := hp98.made hn107
    refine OPS.batch 7 {} [] [0, 3, 4, 5, 6, 9, 10, 11] [.slice s1.a s1.n s1.c, .slice ao12 no13 co14, .bool ok111, .int .i64 e112, .slice a95 s1.n c96, .slice ao113 no114 co115, .bool ok111, .int .i64 e112] .nil (by kernel_rfl) (fun b116 => ?_)
    refine OPS.nil ?_
    refine thn_n ?_
    refine WP.seq ?_
    refine WP.cut (fun e146 w147 => ∃ (x144 : Bool), (True) ∧ Bp x144 (((¬ (((ok111 = true) ↔ (ok111 = true))))) ∨ (((ok111 = true) ↔ (ok111 = true)) ∧ (¬ (e112 = e112))) ∨ (((ok111 = true) ↔ (ok111 = true)) ∧ (e112 = e112) ∧ (¬ (ints xs110 = ints xs110))) ∨ (((ok111 = true) ↔ (ok111 = true)) ∧ (e112 = e112) ∧ (ints xs110 = ints xs110) ∧ (¬ (((List.take ((((s1.n : Nat) : Int) + 1 : Int).toNat) (cl ++ [(⟨(-7), 0, false, ByteArray.empty, ⟨none, 0, 0⟩, 0, 0, 0, false, (⟨0, 0⟩ : GTag)⟩ : GCall)]))[s1.n]!.Client) = (-7))))) ∧ List.map e146 [0, 3, 6, 9, 88] = [.slice s1.a s1.n s1.c, .slice ao12 no13 co14, .slice a95 s1.n c96, .slice ao113 no114 co115, .bool x144] ∧ Hp w Non [Res.own 3 1 (.slice ao113 no114 co115) no114 (List.flatMap (fun (y : Nat) => [Go.Value.int .i64 (y : Int)]) xs110), Res.row g92 [.int .i64 (-7), .int .i64 0, .bool false, .string ByteArray.empty, .slice none 0 0, .int .i64 0, .int .i64 0, .int .i64 0, .bool false, .int .i64 0, .int .i64 0] 41, Res.own 41 11 (.slice a95 (no + 1) c96) (no + 1) (List.flatMap GCall.cells (cl ++ [(⟨(-7), 0, false, ByteArray.empty, ⟨none, 0, 0⟩, 0, 0, 0, false, (⟨0, 0⟩ : GTag)⟩ : GCall)])), Res.vm F cl bs, Res.own 3 1 (.slice ao12 no13 co14) no13 (List.flatMap (fun (y : Nat) => [Go.Value.int .i64 (y : Int)]) xs110)] w147) ?_ ?_
    · refine WP.region _ rfl (by kernel_rfl) ?_
      refine OPS.batch 4 {} [] [0, 3, 5, 6, 9, 11, 65] [.slice s1.a s1.n s1.c, .slice ao12 no13 co14, .int .i64 e112, .slice a95 s1.n c96, .slice ao113 no114 co115, .int .i64 e112, .bool (!(ok111 == ok111))] .nil (by kernel_rfl) (fun b118 => ?_)
      by_cases h119 : ((ok111 = true) ↔ (ok111 = true))
      · refine OPS.batch 0 {} [] [0, 3, 5, 6, 9, 11, 65] [.slice s1.a s1.n s1.c, .slice ao12 no13 co14, .int .i64 e112, .slice a95 s1.n c96, .slice ao113 no114 co115, .int .i64 e112, .bool (!(ok111 == ok111))] .nil (by kernel_rfl) (fun b122 => ?_)
        refine OPS.re [.slice s1.a s1.n s1.c, .slice ao12 no13 co14, .int .i64 e112, .slice a95 s1.n c96, .slice ao113 no114 co115, .int .i64 e112, .bool false] (by rw [show (!(ok111 == ok111)) = false from (Bp.not (Bp.beq Bp.var Bp.var)).ff (fun k => k h119)]) ?_
        refine OPS.batch 5 { wraps := [69] } [] [0, 3, 6, 9, 70] [.slice s1.a s1.n s1.c, .slice ao12 no13 co14, .slice a95 s1.n c96, .slice ao113 no114 co115, .bool (decide (¬ (e112 = e112)))] .nil (by kernel_rfl) (fun b123 => ?_)
        by_cases h124 : e112 = e112
        · refine OPS.batch 0 {} [] [0, 3, 6, 9, 70] [.slice s1.a s1.n s1.c, .slice ao12 no13 co14, .slice a95 s1.n c96, .slice ao113 no114 co115, .bool (decide (¬ (e112 = e112)))] .nil (by kernel_rfl) (fun b127 => ?_)
          refine OPS.re [.slice s1.a s1.n s1.c, .slice ao12 no13 co14, .slice a95 s1.n c96, .slice ao113 no114 co115, .bool false] (by rw [show (decide (¬ (e112 = e112))) = false from Bp.dec.ff (fun k => k h124)]) ?_
          refine OPS.batch 2 {} [] [0, 3, 6, 9, 70, 71, 72] [.slice s1.a s1.n s1.c, .slice ao12 no13 co14, .slice a95 s1.n c96, .slice ao113 no114 co115, .bool false, .slice ao113 no114 co115, .slice ao12 no13 co14] .nil (by kernel_rfl) (fun b128 => ?_)
          refine OPS.want (by kernel_rfl) ?_
          refine OPS.cons (opStep.call (some 73) [.slice ao113 no114 co115, .slice ao12 no13 co14] (by kernel_rfl) (sherdlaw20_sameInts (ints xs110) (ints xs110) ao113 ao12 no114 no13 co115 co14 _ ((ints_len _).trans (own_flat (sz := 1) (fun _ => rfl) (by decide) hp105.get0)) ((ints_len _).trans (own_flat (sz := 1) (fun _ => rfl) (by decide) hp105.get4)) (by first | decide | (simp only [ints_len]; omega) | omega) (slr_ints (SlR.own hp105.get0)) (slr_ints (SlR.own hp105.get4))) ?_)
          rintro _ w131 ⟨b134, rfl, hb135, hf132⟩
          refine ⟨_, rfl, ?_⟩
          have hp133 := hp105.step hf132
          refine OPS.batch 3 { wraps := [75] } [] [0, 3, 6, 9, 76] [.slice s1.a s1.n s1.c, .slice ao12 no13 co14, .slice a95 s1.n c96, .slice ao113 no114 co115, .bool (!b134)] .nil (by kernel_rfl) (fun b136 => ?_)
          by_cases h137 : ints xs110 = ints xs110
          · refine OPS.batch 0 {} [] [0, 3, 6, 9, 76] [.slice s1.a s1.n s1.c, .slice ao12 no13 co14, .slice a95 s1.n c96, .slice ao113 no114 co115, .bool (!b134)] .nil (by kernel_rfl) (fun b140 => ?_)
            refine OPS.re [.slice s1.a s1.n s1.c, .slice ao12 no13 co14, .slice a95 s1.n c96, .slice ao113 no114 co115, .bool false] (by rw [show (!b134) = false from (Bp.not hb135).ff (fun k => k h137)]) ?_
            have := own_cap hp133.get2
            have hy142 : (List.take ((((s1.n : Nat) : Int) + 1 : Int).toNat) (cl ++ [(⟨(-7), 0, false, ByteArray.empty, ⟨none, 0, 0⟩, 0, 0, 0, false, (⟨0, 0⟩ : GTag)⟩ : GCall)]))[s1.n]? = some (List.take ((((s1.n : Nat) : Int) + 1 : Int).toNat) (cl ++ [(⟨(-7), 0, false, ByteArray.empty, ⟨none, 0, 0⟩, 0, 0, 0, false, (⟨0, 0⟩ : GTag)⟩ : GCall)]))[s1.n]! := get_bang (by first | (omega) | (simp only [List.length_append, List.length_cons, List.length_nil]; omega) | (simp only [List.length_take, List.length_append, List.length_cons, List.length_nil]; omega))
            refine OPS.batch 12 { wraps := [88] } [.int .i64 ((List.take ((((s1.n : Nat) : Int) + 1 : Int).toNat) (cl ++ [(⟨(-7), 0, false, ByteArray.empty, ⟨none, 0, 0⟩, 0, 0, 0, false, (⟨0, 0⟩ : GTag)⟩ : GCall)]))[s1.n]!.Client)] [0, 3, 6, 9, 88] [.slice s1.a s1.n s1.c, .slice ao12 no13 co14, .slice a95 s1.n c96, .slice ao113 no114 co115, .bool (decide (¬ (((List.take ((((s1.n : Nat) : Int) + 1 : Int).toNat) (cl ++ [(⟨(-7), 0, false, ByteArray.empty, ⟨none, 0, 0⟩, 0, 0, 0, false, (⟨0, 0⟩ : GTag)⟩ : GCall)]))[s1.n]!.Client) = (-7))))] (.cons (show Rng .i64 (((s1.n : Nat) : Int) + 1) from Rng.i64 (by omega)) (.cons (show 0 ≤ (((s1.n : Nat) : Int) + 1) ∧ (((s1.n : Nat) : Int) + 1) ≤ ((c96 : Nat) : Int) from ⟨by omega, by omega⟩) (.cons (show InB (((s1.n : Nat) : Int)) ((((s1.n : Nat) : Int) + 1 : Int).toNat) from ⟨by omega, by omega⟩) (.cons ((slr_take2 (sz := 11) (n := no + 1) (k := (((s1.n : Nat) : Int) + 1 : Int).toNat) (fun _ => rfl) (SlR.own (hp133.get2)) (by omega)).some (by omega)) (.cons (Ld.add0 (Ld.el1 (P := Try.prog) (t := 3) (slr_take2 (sz := 11) (n := no + 1) (k := (((s1.n : Nat) : Int) + 1 : Int).toNat) (fun _ => rfl) (SlR.own (hp133.get2)) (by omega)).rd 11 (fun _ => rfl) hy142 (o := 0) (v := .int .i64 ((List.take ((((s1.n : Nat) : Int) + 1 : Int).toNat) (cl ++ [(⟨(-7), 0, false, ByteArray.empty, ⟨none, 0, 0⟩, 0, 0, 0, false, (⟨0, 0⟩ : GTag)⟩ : GCall)]))[s1.n]!.Client)) (by kernel_rfl))) .nil))))) (by kernel_rfl) (fun b143 => ?_)
            refine OPS.nil ?_
            refine thn_n ?_
            exact ⟨decide (¬ (((List.take ((((s1.n : Nat) : Int) + 1 : Int).toNat) (cl ++ [(⟨(-7), 0, false, ByteArray.empty, ⟨none, 0, 0⟩, 0, 0, 0, false, (⟨0, 0⟩ : GTag)⟩ : GCall)]))[s1.n]!.Client) = (-7))), trivial, Bp.of Bp.dec (by first | (simp only [h119, h124, h137, iff_false, false_iff, iff_true, true_iff, Classical.not_not, and_true, true_and, and_false, false_and, or_true, true_or, or_false, false_or, not_true_eq_false, not_false_eq_true, and_self, or_self, iff_self]; done) | (simp [h119, h124, h137]; done) | simp_all), by kernel_rfl, hp133⟩
          · refine OPS.batch 0 {} [] [0, 3, 6, 9, 76] [.slice s1.a s1.n s1.c, .slice ao12 no13 co14, .slice a95 s1.n c96, .slice ao113 no114 co115, .bool (!b134)] .nil (by kernel_rfl) (fun b138 => ?_)
            refine OPS.re [.slice s1.a s1.n s1.c, .slice ao12 no13 co14, .slice a95 s1.n c96, .slice ao113 no114 co115, .bool true] (by rw [show (!b134) = true from (Bp.not hb135).tt h137]) ?_
            refine OPS.batch 12 { wraps := [88] } [] [0, 3, 6, 9, 88] [.slice s1.a s1.n s1.c, .slice ao12 no13 co14, .slice a95 s1.n c96, .slice ao113 no114 co115, .bool true] .nil (by kernel_rfl) (fun b139 => ?_)
            refine OPS.nil ?_
            refine thn_n ?_
            exact ⟨true, trivial, Bp.of Bp.t (by first | (simp only [h119, h124, h137, iff_false, false_iff, iff_true, true_iff, Classical.not_not, and_true, true_and, and_false, false_and, or_true, true_or, or_false, false_or, not_true_eq_false, not_false_eq_true, and_self, or_self, iff_self]; done) | (simp [h119, h124, h137]; done) | simp_all), by kernel_rfl, hp133⟩
        · refine OPS.batch 0 {} [] [0, 3, 6, 9, 70] [.slice s1.a s1.n s1.c, .slice ao12 no13 co14, .slice a95 s1.n c96, .slice ao113 no114 co115, .bool (decide (¬ (e112 = e112)))] .nil (by kernel_rfl) (fun b125 => ?_)
          refine OPS.re [.slice s1.a s1.n s1.c, .slice ao12 no13 co14, .slice a95 s1.n c96, .slice ao113 no114 co115, .bool true] (by rw [show (decide (¬ (e112 = e112))) = true from Bp.dec.tt h124]) ?_
          refine OPS.batch 18 { wraps := [75, 88] } [] [0, 3, 6, 9, 88] [.slice s1.a s1.n s1.c, .slice ao12 no13 co14, .slice a95 s1.n c96, .slice ao113 no114 co115, .bool true] .nil (by kernel_rfl) (fun b126 => ?_)
          refine OPS.nil ?_
          refine thn_n ?_
          exact ⟨true, trivial, Bp.of Bp.t (by first | (simp only [h119, h124, iff_false, false_iff, iff_true, true_iff, Classical.not_not, and_true, true_and, and_false, false_and, or_true, true_or, or_false, false_or, not_true_eq_false, not_false_eq_true, and_self, or_self, iff_self]; done) | (simp [h119, h124]; done) | simp_all), by kernel_rfl, hp105⟩
      · refine OPS.batch 0 {} [] [0, 3, 5, 6, 9, 11, 65] [.slice s1.a s1.n s1.c, .slice ao12 no13 co14, .int .i64 e112, .slice a95 s1.n c96, .slice ao113 no114 co115, .int .i64 e112, .bool (!(ok111 == ok111))] .nil (by kernel_rfl) (fun b120 => ?_)
        refine OPS.re [.slice s1.a s1.n s1.c, .slice ao12 no13 co14, .int .i64 e112, .slice a95 s1.n c96, .slice ao113 no114 co115, .int .i64 e112, .bool true] (by rw [show (!(ok111 == ok111)) = true from (Bp.not (Bp.beq Bp.var Bp.var)).tt h119]) ?_
        refine OPS.batch 23 { wraps := [69, 75, 88] } [] [0, 3, 6, 9, 88] [.slice s1.a s1.n s1.c, .slice ao12 no13 co14, .slice a95 s1.n c96, .slice ao113 no114 co115, .bool true] .nil (by kernel_rfl) (fun b121 => ?_)
        refine OPS.nil ?_
        refine thn_n ?_
        exact ⟨true, trivial, Bp.of Bp.t (by first | (simp only [h119, iff_false, false_iff, iff_true, true_iff, Classical.not_not, and_true, true_and, and_false, false_and, or_true, true_or, or_false, false_or, not_true_eq_false, not_false_eq_true, and_self, or_self, iff_self]; done) | (simp [h119]; done) | simp_all), by kernel_rfl, hp105⟩
    rintro e146 w147 ⟨x144, hd149, hb145, hE150, hp148⟩
    obtain ⟨b151, rfl⟩ := toMk hE150
    clear hE150
    clear hd149
    refine WP.test (p := ((¬ (((ok111 = true) ↔ (ok111 = true))))) ∨ (((ok111 = true) ↔ (ok111 = true)) ∧ (¬ (e112 = e112))) ∨ (((ok111 = true) ↔ (ok111 = true)) ∧ (e112 = e112) ∧ (¬ (ints xs110 = ints xs110))) ∨ (((ok111 = true) ↔ (ok111 = true)) ∧ (e112 = e112) ∧ (ints xs110 = ints xs110) ∧ (¬ (((List.take ((((s1.n : Nat) : Int) + 1 : Int).toNat) (cl ++ [(⟨(-7), 0, false, ByteArray.empty, ⟨none, 0, 0⟩, 0, 0, 0, false, (⟨0, 0⟩ : GTag)⟩ : GCall)]))[s1.n]!.Client) = (-7))))) rfl hb145 (fun h152 => ?_) (fun h152 => ?_)
    · refine WP.seq ?_
      refine WP.pure {} [] [2] [.bool false] .nil (by kernel_rfl) (fun b153 => ?_)
      refine thn_n ?_
      refine WP.ret ?_
      refine thn_r ?_
      refine bodyQ.of _ rfl [.bool false] ⟨rfl, trivial⟩ ?_
      exfalso
      first | (clear h27; rcases h152 with q | ⟨_, q⟩ | ⟨_, _, q⟩ | ⟨_, _, _, q⟩; exact q Iff.rfl; exact q rfl; exact q rfl; exact q (congrArg GCall.Client (take_last (by omega) (by omega)))) | rcases h152 with q | ⟨_, q⟩ | ⟨_, _, q⟩ | ⟨_, _, _, q⟩; exact q Iff.rfl; exact q rfl; exact q rfl; exact q (congrArg GCall.Client (take_last (by omega) (by omega)))
    · refine WP.skip ?_
      refine thn_n ?_
      refine WP.seq ?_
      refine WP.seq ?_
      refine WP.pure {} [] [0, 3, 6, 9, 90, 91] [.slice s1.a s1.n s1.c, .slice ao12 no13 co14, .slice a95 s1.n c96, .slice ao113 no114 co115, .int .i64 ((s1.n : Nat) : Int), .int .i64 0] .nil (by kernel_rfl) (fun b154 => ?_)
      refine thn_n ?_
      refine WP.block ?_
      refine WP.loop (fun mz_ e155 w156 => ∃ (i : Nat), mz_ = l1.length - i ∧ (i ≤ l1.length) ∧ List.map e155 [0, 3, 6, 9, 90, 91] = [.slice s1.a s1.n s1.c, .slice ao12 no13 co14, .slice a95 s1.n c96, .slice ao113 no114 co115, .int .i64 ((s1.n : Nat) : Int), .int .i64 (i : Int)] ∧ Hp w Non [Res.own 3 1 (.slice ao113 no114 co115) no114 (List.flatMap (fun (y : Nat) => [Go.Value.int .i64 (y : Int)]) xs110), Res.row g92 [.int .i64 (-7), .int .i64 0, .bool false, .string ByteArray.empty, .slice none 0 0, .int .i64 0, .int .i64 0, .int .i64 0, .bool false, .int .i64 0, .int .i64 0] 41, Res.own 41 11 (.slice a95 (no + 1) c96) (no + 1) (List.flatMap GCall.cells (cl ++ [(⟨(-7), 0, false, ByteArray.empty, ⟨none, 0, 0⟩, 0, 0, 0, false, (⟨0, 0⟩ : GTag)⟩ : GCall)])), Res.vm F cl bs, Res.own 3 1 (.slice ao12 no13 co14) no13 (List.flatMap (fun (y : Nat) => [Go.Value.int .i64 (y : Int)]) xs110)] w156) (l1.length - (0)) ⟨0, rfl, (by omega), by kernel_rfl, hp148⟩ ?_
      rintro _ e155 w156 ⟨i, rfl, hI158, hE159, hp157⟩
      obtain ⟨b160, rfl⟩ := toMk hE159
      clear hE159
      obtain pi_ := hI158
      have pm : i < l1.length → cl[i]!.Value.n = l1[i]!.Value.n ∧ cl[i]!.Value.n + 1 ≤ cl[i]!.Value.c ∧ bs[i]!.length = l1[i]!.Value.n ∧ l1[i]!.Value.n ≤ BV := fun q => by obtain ⟨q1, q2, q3⟩ := vm_len hp157.get3 pb (i := i) (by omega); exact ⟨q1, q2, q3, hvn _ (List.mem_of_getElem? (get_bang q))⟩
      refine WP.seq ?_
      refine WP.pure {} [] [0, 3, 6, 9, 90, 91, 92] [.slice s1.a s1.n s1.c, .slice ao12 no13 co14, .slice a95 s1.n c96, .slice ao113 no114 co115, .int .i64 ((s1.n : Nat) : Int), .int .i64 (i : Int), .bool (decide ((i : Int) < ((s1.n : Nat) : Int)))] .nil (by kernel_rfl) (fun b161 => ?_)
      refine thn_n ?_
      refine WP.seq ?_
      refine WP.test (p := (i : Int) < ((s1.n : Nat) : Int)) rfl Bp.dec (fun h162 => ?_) (fun h162 => ?_)
      · refine WP.skip ?_
        refine thn_n ?_
        refine WP.seq ?_
        refine WP.block ?_
        refine WP.seq ?_
        refine WP.pure {} [] [0, 3, 6, 9, 12, 90, 91] [.slice s1.a s1.n s1.c, .slice ao12 no13 co14, .slice a95 s1.n c96, .slice ao113 no114 co115, .int .i64 (i : Int), .int .i64 ((s1.n : Nat) : Int), .int .i64 (i : Int)] .nil (by kernel_rfl) (fun b163 => ?_)
        refine thn_n ?_
        refine WP.seq ?_
        have hy165 : (l1)[i]? = some l1[i]! := get_bang (by first | (omega) | (simp only [List.length_append, List.length_cons, List.length_nil]; omega) | (simp only [List.length_take, List.length_append, List.length_cons, List.length_nil]; omega))
        refine WP.pure {} [.slice (l1[i]!.Value.a) (l1[i]!.Value.n) (l1[i]!.Value.c)] [0, 3, 6, 9, 12, 13, 90, 91] [.slice s1.a s1.n s1.c, .slice ao12 no13 co14, .slice a95 s1.n c96, .slice ao113 no114 co115, .int .i64 (i : Int), .int .i64 ((l1[i]!.Value.n : Nat) : Int), .int .i64 ((s1.n : Nat) : Int), .int .i64 (i : Int)] (.cons (show InB ((i : Int)) (s1.n) from ⟨by omega, by omega⟩) (.cons ((o1.rd.at hp157).some (by omega)) (.cons (Ld.el1 (P := Try.prog) (t := 39) (o1.rd.at hp157).rd 11 (fun _ => rfl) hy165 (o := 4) (v := .slice (l1[i]!.Value.a) (l1[i]!.Value.n) (l1[i]!.Value.c)) (by kernel_rfl)) .nil))) (by kernel_rfl) (fun b166 => ?_)
        refine thn_n ?_
        refine WP.seq ?_
        have hp169 := hp157.drew
        refine WP.quiet (fun w167 => Hp w Non [Res.own 3 1 (.slice ao113 no114 co115) no114 (List.flatMap (fun (y : Nat) => [Go.Value.int .i64 (y : Int)]) xs110), Res.row g92 [.int .i64 (-7), .int .i64 0, .bool false, .string ByteArray.empty, .slice none 0 0, .int .i64 0, .int .i64 0, .int .i64 0, .bool false, .int .i64 0, .int .i64 0] 41, Res.own 41 11 (.slice a95 (no + 1) c96) (no + 1) (List.flatMap GCall.cells (cl ++ [(⟨(-7), 0, false, ByteArray.empty, ⟨none, 0, 0⟩, 0, 0, 0, false, (⟨0, 0⟩ : GTag)⟩ : GCall)])), Res.vm F cl bs, Res.own 3 1 (.slice ao12 no13 co14) no13 (List.flatMap (fun (y : Nat) => [Go.Value.int .i64 (y : Int)]) xs110)] w167) (by kernel_rfl) hp169 ?_
        have hnehp169 : ∃ wz_, (fun w167 => Hp w Non [Res.own 3 1 (.slice ao113 no114 co115) no114 (List.flatMap (fun (y : Nat) => [Go.Value.int .i64 (y : Int)]) xs110), Res.row g92 [.int .i64 (-7), .int .i64 0, .bool false, .string ByteArray.empty, .slice none 0 0, .int .i64 0, .int .i64 0, .int .i64 0, .bool false, .int .i64 0, .int .i64 0] 41, Res.own 41 11 (.slice a95 (no + 1) c96) (no + 1) (List.flatMap GCall.cells (cl ++ [(⟨(-7), 0, false, ByteArray.empty, ⟨none, 0, 0⟩, 0, 0, 0, false, (⟨0, 0⟩ : GTag)⟩ : GCall)])), Res.vm F cl bs, Res.own 3 1 (.slice ao12 no13 co14) no13 (List.flatMap (fun (y : Nat) => [Go.Value.int .i64 (y : Int)]) xs110)] w167) wz_ := ⟨_, hp169⟩
        have hy173 : (cl)[i]? = some cl[i]! := get_bang (by first | (omega) | (simp only [List.length_append, List.length_cons, List.length_nil]; omega) | (simp only [List.length_take, List.length_append, List.length_cons, List.length_nil]; omega))
        refine QOPS.batch 8 {} [GCall.val (cl[i]!), GCall.val (l1[i]!)] [0, 3, 6, 9, 12, 13, 90, 91, 103, 107] [.slice s1.a s1.n s1.c, .slice ao12 no13 co14, .slice a95 s1.n c96, .slice ao113 no114 co115, .int .i64 (i : Int), .int .i64 ((l1[i]!.Value.n : Nat) : Int), .int .i64 ((s1.n : Nat) : Int), .int .i64 (i : Int), GCall.val (cl[i]!), GCall.val (l1[i]!)] hnehp169 (fun w170 hp171 => QB.mk (.cons (show InB ((i : Int)) (s1.n) from ⟨by omega, by omega⟩) (.cons ((slr_cut (N := no + 1) (n := s1.n) (cl := cl) hp171.get2 (show cl.length = s1.n by omega) (by omega)).some (by omega)) (.cons (Ld.add0 (Ld.elN (P := Try.prog) (t := 41) (slr_cut (N := no + 1) (n := s1.n) (cl := cl) hp171.get2 (show cl.length = s1.n by omega) (by omega)).rd 11 (fun _ => rfl) hy173 (o := 0) (cs := [.int .i64 (cl[i]!.Client), .int .i64 (cl[i]!.Op), .bool (cl[i]!.Put), .string (cl[i]!.Key), .slice (cl[i]!.Value.a) (cl[i]!.Value.n) (cl[i]!.Value.c), .int .i64 (cl[i]!.Status), .int .i64 (cl[i]!.From), .int .i64 (cl[i]!.To), .bool (cl[i]!.Open), .int .i64 (cl[i]!.Tag.Count), .int .i64 (cl[i]!.Tag.Client)]) (by kernel_rfl))) (.cons (show InB ((i : Int)) (s1.n) from ⟨by omega, by omega⟩) (.cons ((o1.rd.at hp171).some (by omega)) (.cons (Ld.add0 (Ld.elN (P := Try.prog) (t := 41) (o1.rd.at hp171).rd 11 (fun _ => rfl) hy165 (o := 0) (cs := [.int .i64 (l1[i]!.Client), .int .i64 (l1[i]!.Op), .bool (l1[i]!.Put), .string (l1[i]!.Key), .slice (l1[i]!.Value.a) (l1[i]!.Value.n) (l1[i]!.Value.c), .int .i64 (l1[i]!.Status), .int .i64 (l1[i]!.From), .int .i64 (l1[i]!.To), .bool (l1[i]!.Open), .int .i64 (l1[i]!.Tag.Count), .int .i64 (l1[i]!.Tag.Client)]) (by kernel_rfl))) .nil)))))) (by kernel_rfl)) (fun b174 => ?_)
        refine QOPS.call (some 108) [GCall.val (cl[i]!), GCall.val (l1[i]!)] (by kernel_rfl) (fun w175 hp176 => (same_T (cl[i]!) (l1[i]!) _ (vm_vb hp176.get3 (i := i) (by omega)).1 (cp_same pb (i := i) (by omega) (vm_vb hp176.get3 (by omega)).2 hp176.fr (hv _ (List.mem_of_getElem? (get_bang (by omega)))))).mono fun _ _ h => ⟨h.1, hp176.step h.2⟩) ?_
        have hy180 : ((bs[i]! ++ [7]))[(l1[i]!.Value.n)]? = some (bs[i]! ++ [7])[(l1[i]!.Value.n)]! := get_bang (by first | (omega) | (simp only [List.length_append, List.length_cons, List.length_nil]; omega) | (simp only [List.length_take, List.length_append, List.length_cons, List.length_nil]; omega))
        refine QOPS.batch 15 { wraps := [123] } [.slice (cl[i]!.Value.a) (cl[i]!.Value.n) (cl[i]!.Value.c), .int .u8 ((bs[i]! ++ [7])[(l1[i]!.Value.n)]!)] [0, 3, 6, 9, 90, 91, 123] [.slice s1.a s1.n s1.c, .slice ao12 no13 co14, .slice a95 s1.n c96, .slice ao113 no114 co115, .int .i64 ((s1.n : Nat) : Int), .int .i64 (i : Int), .bool (decide (¬ (((bs[i]! ++ [7])[(l1[i]!.Value.n)]!) = 7)))] hnehp169 (fun w177 hp178 => QB.mk (.cons (show InB ((i : Int)) (s1.n) from ⟨by omega, by omega⟩) (.cons ((slr_cut (N := no + 1) (n := s1.n) (cl := cl) hp178.get2 (show cl.length = s1.n by omega) (by omega)).some (by omega)) (.cons (Ld.el1 (P := Try.prog) (t := 39) (slr_cut (N := no + 1) (n := s1.n) (cl := cl) hp178.get2 (show cl.length = s1.n by omega) (by omega)).rd 11 (fun _ => rfl) hy173 (o := 4) (v := .slice (cl[i]!.Value.a) (cl[i]!.Value.n) (cl[i]!.Value.c)) (by kernel_rfl)) (.cons (show Rng .i64 (((l1[i]!.Value.n : Nat) : Int) + 1) from Rng.i64 (by omega)) (.cons (show 0 ≤ (((l1[i]!.Value.n : Nat) : Int) + 1) ∧ (((l1[i]!.Value.n : Nat) : Int) + 1) ≤ ((cl[i]!.Value.c : Nat) : Int) from ⟨by omega, by omega⟩) (.cons (show InB (((l1[i]!.Value.n : Nat) : Int)) ((((l1[i]!.Value.n : Nat) : Int) + 1 : Int).toNat) from ⟨by omega, by omega⟩) (.cons ((vm_at (cl := cl) (bs := bs) (i := i) (m := (((l1[i]!.Value.n : Nat) : Int) + 1 : Int).toNat) hp178.get3 (by omega) (by omega)).some (by omega)) (.cons (Ld.add0 (Ld.el1 (P := Try.prog) (t := 5) (vm_at (cl := cl) (bs := bs) (i := i) (m := (((l1[i]!.Value.n : Nat) : Int) + 1 : Int).toNat) hp178.get3 (by omega) (by omega)).rd 1 (fun _ => rfl) hy180 (o := 0) (v := .int .u8 ((bs[i]! ++ [7])[(l1[i]!.Value.n)]!)) (by kernel_rfl))) .nil)))))))) (by kernel_rfl)) (fun b181 => ?_)
        refine QOPS.nil (fun w182 hp183 => ?_)
        refine thn_n ?_
        refine WP.test (p := ¬ (((bs[i]! ++ [7])[(l1[i]!.Value.n)]!) = 7)) rfl Bp.dec (fun h184 => ?_) (fun h184 => ?_)
        · refine WP.seq ?_
          refine WP.pure {} [] [2] [.bool false] .nil (by kernel_rfl) (fun b185 => ?_)
          refine thn_n ?_
          refine WP.ret ?_
          refine blk_r ?_
          refine thn_r ?_
          refine thn_r ?_
          refine blk_r ?_
          refine thn_r ?_
          refine bodyQ.of _ rfl [.bool false] ⟨rfl, trivial⟩ ?_
          exfalso
          first | (clear h27 h152 h162; exact h184 (last_bang (by omega))) | exact h184 (last_bang (by omega))
        · replace h184 := Classical.not_not.1 h184
          refine WP.skip ?_
          refine blk_n ?_
          refine thn_n ?_
          refine WP.pure {} [] [0, 3, 6, 9, 90, 91] [.slice s1.a s1.n s1.c, .slice ao12 no13 co14, .slice a95 s1.n c96, .slice ao113 no114 co115, .int .i64 ((s1.n : Nat) : Int), .int .i64 ((i : Int) + 1)] (.cons (show Rng .i64 ((i : Int) + 1) from Rng.i64 (by omega)) .nil) (by kernel_rfl) (fun b186 => ?_)
          refine thn_n ?_
          exact ⟨l1.length - (i + 1), (by omega), i + 1, rfl, (by omega), by kernel_rfl, hp183⟩
      · refine WP.exit ?_
        refine thn_x ?_
        refine thn_x ?_
        refine blk_hit ?_
        refine thn_n ?_
        refine WP.seq ?_
        refine WP.seq ?_
        refine WP.pure {} [] [3, 6, 9, 126, 127] [.slice ao12 no13 co14, .slice a95 s1.n c96, .slice ao113 no114 co115, .int .i64 ((no114 : Nat) : Int), .int .i64 0] .nil (by kernel_rfl) (fun b187 => ?_)
        refine thn_n ?_
        refine WP.block ?_
        have hnx_ : no114 ≤ 1256584717421 := by have := own_flat (sz := 1) (fun _ => rfl) (by decide) hp157.get0; omega
        have hp188 : Hp w Non [Res.own 3 1 (.slice ao113 no114 co115) no114 (List.flatMap (fun (y : Int) => [Go.Value.int .i64 y]) (List.map (fun (y : Nat) => (y : Int)) xs110)), Res.row g92 [.int .i64 (-7), .int .i64 0, .bool false, .string ByteArray.empty, .slice none 0 0, .int .i64 0, .int .i64 0, .int .i64 0, .bool false, .int .i64 0, .int .i64 0] 41, Res.own 41 11 (.slice a95 (no + 1) c96) (no + 1) (List.flatMap GCall.cells (cl ++ [(⟨(-7), 0, false, ByteArray.empty, ⟨none, 0, 0⟩, 0, 0, 0, false, (⟨0, 0⟩ : GTag)⟩ : GCall)])), Res.vm F cl bs, Res.own 3 1 (.slice ao12 no13 co14) no13 (List.flatMap (fun (y : Nat) => [Go.Value.int .i64 (y : Int)]) xs110)] w156 := by rw [show Res.own 3 1 (.slice ao113 no114 co115) no114 (List.flatMap (fun (y : Int) => [Go.Value.int .i64 y]) (List.map (fun (y : Nat) => (y : Int)) xs110)) = Res.own 3 1 (.slice ao113 no114 co115) no114 (List.flatMap (fun (y : Nat) => [Go.Value.int .i64 (y : Int)]) xs110) from by rw [flat_natI]]; exact hp157
        refine WP.loop (fun mz_ e189 w190 => ∃ (m : Nat) (zs : List Int), mz_ = no114 - m ∧ (m ≤ no114) ∧ List.map e189 [3, 6, 9, 126, 127] = [.slice ao12 no13 co14, .slice a95 s1.n c96, .slice ao113 no114 co115, .int .i64 ((no114 : Nat) : Int), .int .i64 (m : Int)] ∧ Hp w Non [Res.own 3 1 (.slice ao113 no114 co115) no114 (List.flatMap (fun (y : Int) => [Go.Value.int .i64 y]) zs), Res.row g92 [.int .i64 (-7), .int .i64 0, .bool false, .string ByteArray.empty, .slice none 0 0, .int .i64 0, .int .i64 0, .int .i64 0, .bool false, .int .i64 0, .int .i64 0] 41, Res.own 41 11 (.slice a95 (no + 1) c96) (no + 1) (List.flatMap GCall.cells (cl ++ [(⟨(-7), 0, false, ByteArray.empty, ⟨none, 0, 0⟩, 0, 0, 0, false, (⟨0, 0⟩ : GTag)⟩ : GCall)])), Res.vm F cl bs, Res.own 3 1 (.slice ao12 no13 co14) no13 (List.flatMap (fun (y : Nat) => [Go.Value.int .i64 (y : Int)]) xs110)] w190) (no114 - (0)) ⟨0, (List.map (fun (y : Nat) => (y : Int)) xs110), rfl, (by omega), by kernel_rfl, hp188⟩ ?_
        rintro _ e189 w190 ⟨m, zs, rfl, hI192, hE193, hp191⟩
        obtain ⟨b194, rfl⟩ := toMk hE193
        clear hE193
        obtain pz := hI192
        have hno_ : m < no114 → no114 ≤ 1256584717421 := fun _ => hnx_
        refine WP.seq ?_
        refine WP.pure {} [] [3, 6, 9, 126, 127, 128] [.slice ao12 no13 co14, .slice a95 s1.n c96, .slice ao113 no114 co115, .int .i64 ((no114 : Nat) : Int), .int .i64 (m : Int), .bool (decide ((m : Int) < ((no114 : Nat) : Int)))] .nil (by kernel_rfl) (fun b195 => ?_)
        refine thn_n ?_
        refine WP.seq ?_
        refine WP.test (p := (m : Int) < ((no114 : Nat) : Int)) rfl Bp.dec (fun h196 => ?_) (fun h196 => ?_)
        · refine WP.skip ?_
          refine thn_n ?_
          refine WP.seq ?_
          refine WP.block ?_
          refine WP.seq ?_
          refine WP.pure {} [] [3, 6, 9, 14, 126, 127] [.slice ao12 no13 co14, .slice a95 s1.n c96, .slice ao113 no114 co115, .int .i64 (m : Int), .int .i64 ((no114 : Nat) : Int), .int .i64 (m : Int)] .nil (by kernel_rfl) (fun b197 => ?_)
          refine thn_n ?_
          refine WP.region _ rfl (by kernel_rfl) ?_
          refine OPS.batch 3 {} [] [3, 6, 9, 126, 127, 132] [.slice ao12 no13 co14, .slice a95 s1.n c96, .slice ao113 no114 co115, .int .i64 ((no114 : Nat) : Int), .int .i64 (m : Int), .pointer (some ((adr ao113).add (m * 1)))] (.cons (show InB ((m : Int)) (no114) from ⟨by omega, by omega⟩) (.cons ((SlR.own (hp191.get0)).some (by omega)) .nil)) (by kernel_rfl) (fun b198 => ?_)
          have := own_flat (sz := 1) (fun _ => rfl) (by decide) hp191.get0
          try simp only [List.length_set] at this
          refine OPS.cons (opStep.storeOwn0 (m * 1) hp191 rfl [.int .i64 (-1)] (by kernel_rfl) (by simp) (show m * 1 + 1 ≤ no114 * 1 by omega) (fun w199 hp200 => ?_))
          have hp201 := hp200
          rw [show ow (List.flatMap (fun (y : Int) => [Go.Value.int .i64 y]) zs) (m * 1) [.int .i64 (-1)] = List.flatMap (fun (y : Int) => [Go.Value.int .i64 y]) (zs.set m (-1)) from ow_flat (sz := 1) (fun _ => rfl) (by first | (omega) | (simp only [List.length_set]; omega)) (-1)] at hp201
          refine OPS.nil ?_
          refine blk_n ?_
          refine thn_n ?_
          refine WP.pure {} [] [3, 6, 9, 126, 127] [.slice ao12 no13 co14, .slice a95 s1.n c96, .slice ao113 no114 co115, .int .i64 ((no114 : Nat) : Int), .int .i64 ((m : Int) + 1)] (.cons (show Rng .i64 ((m : Int) + 1) from Rng.i64 (by omega)) .nil) (by kernel_rfl) (fun b202 => ?_)
          refine thn_n ?_
          exact ⟨no114 - (m + 1), (by omega), m + 1, zs.set m (-1), rfl, (by omega), by kernel_rfl, hp201⟩
        · refine WP.exit ?_
          refine thn_x ?_
          refine thn_x ?_
          refine blk_hit ?_
          refine thn_n ?_
          refine WP.seq ?_
          refine WP.region _ rfl (by kernel_rfl) ?_
          refine OPS.batch 1 {} [] [3, 135] [.slice ao12 no13 co14, .slice a95 s1.n c96] .nil (by kernel_rfl) (fun b203 => ?_)
          have hk_ : k = l1.length := by omega
          have hf211 : SlR w190 a95 s1.n (List.flatMap GCall.cells cl) := by have q := slr_take2 (f := GCall.cells) (sz := 11) (k := s1.n) (fun _ => rfl) (SlR.own hp191.get2) (by omega); rwa [List.take_left' (by omega)] at q
          refine OPS.cons (opStep.call (some 136) [.slice a95 s1.n c96] (by kernel_rfl) (lin_OneN cl s1.n (by omega) a95 c96 _ hf211 (vm_mem hp191.get3) (by omega)) ?_)
          rintro _ w206 ⟨xs212, ok213, e214, ao215, no216, co217, rfl, hx208, hn209⟩
          obtain ⟨hz210_1, hz210_2, hz210_3⟩ := one_same hx208 ((cp_sim pb hk_ (fun i hi => (vm_vb hp191.get3 hi).2)).one hx7)
          subst hz210_1 hz210_2 hz210_3
          refine ⟨_, rfl, ?_⟩
          have hp207 := hp191.made hn209
          refine OPS.batch 7 {} [] [3, 15] [.slice ao12 no13 co14, .slice ao215 no216 co217] .nil (by kernel_rfl) (fun b218 => ?_)
          refine OPS.nil ?_
          refine thn_n ?_
          refine WP.cut (fun e239 w240 => ∃ (x237 : Bool), (True) ∧ Bp x237 ((ints xs212 = ints xs212)) ∧ List.map e239 [2] = [.bool x237] ∧ Hp w Non [Res.own 3 1 (.slice ao215 no216 co217) no216 (List.flatMap (fun (y : Nat) => [Go.Value.int .i64 (y : Int)]) xs212), Res.own 3 1 (.slice ao113 no114 co115) no114 (List.flatMap (fun (y : Int) => [Go.Value.int .i64 y]) zs), Res.row g92 [.int .i64 (-7), .int .i64 0, .bool false, .string ByteArray.empty, .slice none 0 0, .int .i64 0, .int .i64 0, .int .i64 0, .bool false, .int .i64 0, .int .i64 0] 41, Res.own 41 11 (.slice a95 (no + 1) c96) (no + 1) (List.flatMap GCall.cells (cl ++ [(⟨(-7), 0, false, ByteArray.empty, ⟨none, 0, 0⟩, 0, 0, 0, false, (⟨0, 0⟩ : GTag)⟩ : GCall)])), Res.vm F cl bs, Res.own 3 1 (.slice ao12 no13 co14) no13 (List.flatMap (fun (y : Nat) => [Go.Value.int .i64 (y : Int)]) xs212)] w240) ?_ ?_
          · refine WP.region _ rfl (by kernel_rfl) ?_
            refine OPS.batch 2 {} [] [140, 141] [.slice ao215 no216 co217, .slice ao12 no13 co14] .nil (by kernel_rfl) (fun b220 => ?_)
            refine OPS.cons (opStep.call (some 142) [.slice ao215 no216 co217, .slice ao12 no13 co14] (by kernel_rfl) (sherdlaw20_sameInts (ints xs212) (ints xs212) ao215 ao12 no216 no13 co217 co14 _ ((ints_len _).trans (own_flat (sz := 1) (fun _ => rfl) (by decide) hp207.get0)) ((ints_len _).trans (own_flat (sz := 1) (fun _ => rfl) (by decide) hp207.get5)) (by first | decide | (simp only [ints_len]; omega) | omega) (slr_ints (SlR.own hp207.get0)) (slr_ints (SlR.own hp207.get5))) ?_)
            rintro _ w223 ⟨b226, rfl, hb227, hf224⟩
            refine ⟨_, rfl, ?_⟩
            have hp225 := hp207.step hf224
            refine OPS.batch 1 {} [] [143] [.bool b226] .nil (by kernel_rfl) (fun b228 => ?_)
            by_cases h229 : ints xs212 = ints xs212
            · rw [show b226 = true from hb227.tt h229]
              refine OPS.want (by kernel_rfl) ?_
              refine OPS.cons (opStep.call (some 144) [] (by kernel_rfl) (law20_taken _) ?_)
              rintro _ w232 ⟨rfl, hf233⟩
              refine ⟨_, rfl, ?_⟩
              have hp234 := hp225.step hf233
              refine OPS.batch 2 { wraps := [145] } [] [2] [.bool true] .nil (by kernel_rfl) (fun b235 => ?_)
              refine OPS.nil ?_
              refine thn_n ?_
              exact ⟨true, trivial, Bp.of Bp.t (by first | (simp only [h229, iff_false, false_iff, iff_true, true_iff, Classical.not_not, and_true, true_and, and_false, false_and, or_true, true_or, or_false, false_or, not_true_eq_false, not_false_eq_true, and_self, or_self, iff_self]; done) | (simp [h229]; done) | simp_all), by kernel_rfl, hp234⟩
            · rw [show b226 = false from hb227.ff h229]
              refine OPS.batch 3 { wraps := [145] } [] [2] [.bool false] .nil (by kernel_rfl) (fun b236 => ?_)
              refine OPS.nil ?_
              refine thn_n ?_
              exact ⟨false, trivial, Bp.of Bp.f (by first | (simp only [h229, iff_false, false_iff, iff_true, true_iff, Classical.not_not, and_true, true_and, and_false, false_and, or_true, true_or, or_false, false_or, not_true_eq_false, not_false_eq_true, and_self, or_self, iff_self]; done) | (simp [h229]; done) | simp_all), by kernel_rfl, hp225⟩
          rintro e239 w240 ⟨x237, hd242, hb238, hE243, hp241⟩
          obtain ⟨b244, rfl⟩ := toMk hE243
          clear hE243
          clear hd242
          refine WP.ret ?_
          refine bodyQ.of _ rfl [.bool x237] ⟨rfl, trivial⟩ ?_
          exact ⟨congrArg (fun b => Ending.returned (.bool b)) (Bp.tt hb238 (by first | exact ⟨rfl, trivial⟩ | simp_all)), hp241.fr⟩

end Go.Proofs.Ythdkbbpiaeaojaa.K
