/- Texts of this claim, merged: what the program's functions compute, and the rules that the walks use. -/
import Derived.Test.YtbpedjefoajegaaDoorProg
import Derived.Test.YtbpedjefoajegaaDoorZ1
import Derived.Test.YtbpedjefoajegaaDoorZ2
import Derived.Test.YtbpedjefoajegaaDoorZ7
namespace Go.Proofs.YtbpedjefoajegaaDoor.K
open Go Go.Proofs Go.RowKit
set_option linter.unusedVariables false
set_option linter.unusedSimpArgs false
set_option maxRecDepth 20000
set_option maxHeartbeats 4000000
noncomputable abbrev qo0 := ([iI 0, iI 0, iI 0, .string ByteArray.empty, nS, nS] : List Go.Value)

/-- What Text answers. -/
def TxtR (xs : List StepP) (t : ByteArray) (e : Int) : Prop := (4096 < xs.length ∧ t = ⟨#[]⟩ ∧ e = 2) ∨ (xs.length ≤ 4096 ∧ t = ⟨#[]⟩ ∧ ∃ k, k < xs.length ∧ e = chkI xs[k]! ∧ ¬ e = 0 ∧ ∀ i, i < k → chkI xs[i]! = 0) ∨ (xs.length ≤ 4096 ∧ e = 0 ∧ t = textS xs ∧ ∀ x ∈ xs, okS x)
def txtL (xs : List StepP) : List UInt8 := textL (xs.map fun x => (lineS x).data.toList)
theorem txt_step {xs : List StepP} {k : Nat} (h : k < xs.length) (h0 : chkI xs[k]! = 0) : (txtL (xs.take k) ++ (lineV xs[k]!).data.toList) ++ [UInt8.ofNat (10 : Int).toNat] = txtL (xs.take (k + 1)) := by
  rw [lineV_ok (chk_ok h0)]
  unfold txtL textL
  rw [List.take_succ_eq_append_getElem h, List.map_append, List.flatMap_append, getElem!_pos xs k h, List.append_assoc]
  congr 1
  simp
theorem txt_len {xs : List StepP} {k : Nat} (h : k < xs.length) (h0 : chkI xs[k]! = 0) (hM : (lineS xs[k]!).size ≤ 34359738366) (ih : (txtL (xs.take k)).length ≤ k * 34359738367) : (txtL (xs.take (k + 1))).length ≤ (k + 1) * 34359738367 := by
  rw [← txt_step h h0, List.length_append, List.length_append, List.length_singleton, lineV_ok (chk_ok h0), ← size_list]; omega
theorem sc_Text (cl : List GStep) (xs : List StepP) (a : Option Addr) (n c : Nat) (w : World) (hls : LibS w) (hn : n = cl.length) (hb : cl.length ≤ 8796093022207) (hsl : SlR w a n (cl.flatMap GStep.cells)) (hst : StL w Tr cl xs) (hsm : ∀ x ∈ xs, smS x) (hT : ∀ x ∈ xs, (lineS x).size ≤ 34359738366) :
  Calls Tryd.prog 7 #[.slice a n c] w (fun r_ w' => ∃ t e, r_ = .returned (.tuple #[.string t, .int .i64 e]) ∧ TxtR xs t e ∧ Fram Non w w') := by
 have hxl := hst.1
 refine calls_of Tryd.func7 rfl 31 rfl (by simp) ?_
 have hp0 := Hp.init w
 have he0 : List.map (env0 [.slice a n c]) [0] = [.slice a n c] := by kernel_rfl
 obtain ⟨b0, he0⟩ := toMk he0
 rw [he0]
 clear he0
 refine WP.seq (wP [0] [.slice a n c] fun b1 => ?_)
 refine thn_n (WP.seq (WP.seq (wP [0, 11] [.slice a n c, .bool (decide (4096 < ((n : Nat) : Int)))] fun b2 => ?_)))
 refine thn_n ?_
 refine WP.test (p := 4096 < ((n : Nat) : Int)) rfl Bp.dec (fun h3 => ?_) (fun h3 => ?_)
 ·refine WP.seq (wP [2, 3] [.string ⟨#[]⟩, iI 2] fun b4 => ?_)
  refine thn_n (WP.ret (thn_r ?_))
  refine bodyQ.of _ rfl [.string ⟨#[]⟩, iI 2] ⟨rfl, rfl, trivial⟩ ?_
  exact ⟨_, _, rfl, .inl ⟨by have h_ := h3; omega, rfl, rfl⟩, hp0.fr⟩
 ·refine WP.skip (thn_n (WP.seq (wR ?_)))
  refine OPS.cons (opStep.alloc hp0 [.pointer none, nS] (by kernel_rfl) (fun g7 w5 hp6 => ?_))
  refine OPS.nil (thn_n (WP.seq (WP.seq (wP [4, 12, 13, 14] [pP g7, .slice a n c, iI ((n : Nat) : Int), iI 0] fun b8 => ?_))))
  refine thn_n (WP.block ?_)
  have hp9 := hp6.pull0
  have hp10 := (show Hp w Non [Res.bld 48 5 g7 (.pointer none) (nS) (Lib.byteCells ([] : List UInt8))] w5 from hp9.newB)
  refine WP.loop (fun mz_ e11 w12 => ∃ (k : Nat) (pb : Go.Value) (vb : Go.Value) (tx : List UInt8), mz_ = n - k ∧ (k ≤ n ∧ (∀ i, i < k → chkI xs[i]! = 0) ∧ tx = txtL (xs.take k) ∧ tx.length ≤ k * 34359738367) ∧ List.map e11 [4, 12, 13, 14] = [pP g7, .slice a n c, iI ((n : Nat) : Int), iI (k : Int)] ∧ Hp w Non [Res.bld 48 5 g7 pb vb (Lib.byteCells tx)] w12) (n - (0)) ⟨0, (.pointer none), (nS), ([] : List UInt8), rfl, ⟨by omega, fun i hi => by omega, rfl, by simp⟩, by kernel_rfl, hp10⟩ ?_
  rintro _ e11 w12 ⟨k, pb, vb, tx, rfl, hI14, hE15, hp13⟩
  obtain ⟨b16, rfl⟩ := toMk hE15
  clear hE15
  obtain ⟨pa, pb2, pc, pd⟩ := hI14
  have hlk : k < xs.length → (lineS xs[k]!).size ≤ 34359738366 := fun q => hT _ (List.mem_of_getElem? (get_bang q))
  have hlv : k < xs.length → (lineV xs[k]!).size ≤ 34359738366 := fun q => by unfold lineV; split; exact hlk q; exact Nat.zero_le _
  have hsl2 := size_list (lineV xs[k]!)
  refine WP.seq (wP [4, 12, 13, 14, 15] [pP g7, .slice a n c, iI ((n : Nat) : Int), iI (k : Int), .bool (decide ((k : Int) < ((n : Nat) : Int)))] fun b17 => ?_)
  refine thn_n (WP.seq ?_)
  refine WP.test (p := (k : Int) < ((n : Nat) : Int)) rfl Bp.dec (fun h18 => ?_) (fun h18 => ?_)
  ·refine WP.skip (thn_n (WP.seq (WP.block (WP.seq (wR ?_)))))
   have hy22 : (cl)[k]? = some cl[k]! := get_bang (by first | (omega) | (simp only [List.length_append, List.length_cons, List.length_nil]; omega) | (simp only [List.length_take, List.length_append, List.length_cons, List.length_nil]; omega))
   refine oQ 2 {} [GStep.val (cl[k]!)] [4, 12, 13, 14, 17] [pP g7, .slice a n c, iI ((n : Nat) : Int), iI (k : Int), GStep.val (cl[k]!)] (.cons (show InB ((k : Int)) (n) from ⟨by omega, by omega⟩) (.cons ((hsl.at hp13).some (by omega)) (.cons (Ld.add0 (Ld.elN (P := Tryd.prog) (t := 31) (hsl.at hp13).rd 6 (fun _ => rfl) hy22 (o := 0) (cs := [iI (cl[k]!.Kind), iI (cl[k]!.A), iI (cl[k]!.B), .string (cl[k]!.Key), .slice (cl[k]!.Value.a) (cl[k]!.Value.n) (cl[k]!.Value.c), .slice (cl[k]!.L.a) (cl[k]!.L.n) (cl[k]!.L.c)]) (by kernel_rfl))) .nil))) fun b23 => ?_
   refine OPS.cons (opStep.alloc hp13 qo0 (by kernel_rfl) (fun g26 w24 hp25 => ?_))
   refine OPS.cons (opStep.store0 hp25 rfl [iI (cl[k]!.Kind), iI (cl[k]!.A), iI (cl[k]!.B), .string (cl[k]!.Key), .slice (cl[k]!.Value.a) (cl[k]!.Value.n) (cl[k]!.Value.c), .slice (cl[k]!.L.a) (cl[k]!.L.n) (cl[k]!.L.c)] [iI (cl[k]!.Kind), iI (cl[k]!.A), iI (cl[k]!.B), .string (cl[k]!.Key), .slice (cl[k]!.Value.a) (cl[k]!.Value.n) (cl[k]!.Value.c), .slice (cl[k]!.L.a) (cl[k]!.L.n) (cl[k]!.L.c)] (by kernel_rfl) (fun w27 hp28 => ?_))
   refine OPS.nil (thn_n (WP.seq (wR (oQ 1 {} [GStep.val (cl[k]!)] [4, 12, 13, 14, 19] [pP g7, .slice a n c, iI ((n : Nat) : Int), iI (k : Int), GStep.val (cl[k]!)] (.cons (lN 31 0 [iI (cl[k]!.Kind), iI (cl[k]!.A), iI (cl[k]!.B), .string (cl[k]!.Key), .slice (cl[k]!.Value.a) (cl[k]!.Value.n) (cl[k]!.Value.c), .slice (cl[k]!.L.a) (cl[k]!.L.n) (cl[k]!.L.c)] hp28.get0) .nil) fun b29 => ?_))))
   refine OPS.cons (opStep.call (some 20) [GStep.val (cl[k]!)] (by kernel_rfl) (sc_Line cl[k]! xs[k]! _ (hls.fram hp28.fr) ((hst.2 k (by omega)).fram hp28.fr) (hsm _ (List.mem_of_getElem? (get_bang (by omega))))) ?_)
   rintro _ w32 ⟨rfl, hf33⟩
   refine ⟨_, rfl, ?_⟩
   have hp34 := hp28.step hf33
   refine oP 5 [4, 7, 8, 12, 13, 14] [pP g7, .string (lineV xs[k]!), iI (chkI xs[k]!), .slice a n c, iI ((n : Nat) : Int), iI (k : Int)] fun b35 => ?_
   refine OPS.nil (thn_n (WP.seq (WP.seq (wP [4, 7, 8, 12, 13, 14, 24] [pP g7, .string (lineV xs[k]!), iI (chkI xs[k]!), .slice a n c, iI ((n : Nat) : Int), iI (k : Int), .bool (decide (¬ ((chkI xs[k]!) = 0)))] fun b36 => ?_))))
   refine thn_n ?_
   refine WP.test (p := ¬ ((chkI xs[k]!) = 0)) rfl Bp.dec (fun h37 => ?_) (fun h37 => ?_)
   ·refine WP.seq (wP [2, 3] [.string ⟨#[]⟩, iI (chkI xs[k]!)] fun b38 => ?_)
    refine thn_n (WP.ret (thn_r ?_))
    refine blk_r ?_
    refine thn_r (thn_r ?_)
    refine blk_r ?_
    refine thn_r ?_
    refine bodyQ.of _ rfl [.string ⟨#[]⟩, iI (chkI xs[k]!)] ⟨rfl, rfl, trivial⟩ ?_
    exact ⟨_, _, rfl, .inr (.inl ⟨by omega, rfl, k, by omega, rfl, by have h_ := h37; omega, pb2⟩), hp34.fr⟩
   ·replace h37 := Classical.not_not.1 h37
    refine WP.skip (thn_n (WP.seq (wR (oP 1 [4, 12, 13, 14, 26] [pP g7, .slice a n c, iI ((n : Nat) : Int), iI (k : Int), .string (lineV xs[k]!)] fun b39 => ?_))))
    have hp42 := hp34.pull1
    refine OPS.cons (opStep.call (some 27) [pP g7, .string (lineV xs[k]!)] (by kernel_rfl) (bws_c (lineV xs[k]!) (by first | omega | (rw [List.length_append]; omega)) hp42) ?_)
    rintro _ w43 ⟨p45, v46, rfl, hp44⟩
    refine ⟨_, rfl, ?_⟩
    refine OPS.nil (thn_n (wR ?_))
    have hp49 := hp44.pull0
    refine OPS.cons (opStep.call (some 28) [pP g7, .int .u8 10] (by kernel_rfl) (bwb_c 10 ⟨by omega, by omega⟩ (by first | omega | (rw [List.length_append]; omega)) hp49) ?_)
    rintro _ w50 ⟨p52, v53, rfl, hp51⟩
    refine ⟨_, rfl, ?_⟩
    refine OPS.nil (blk_n (thn_n (wQ {} [] [4, 12, 13, 14] [pP g7, .slice a n c, iI ((n : Nat) : Int), iI ((k : Int) + 1)] (.cons (show Rng .i64 ((k : Int) + 1) from Rng.i64 (by omega)) .nil) fun b54 => ?_)))
    refine thn_n ?_
    have hc0 : chkI xs[k]! = 0 := by have h_ := h37; omega
    exact ⟨n - (k + 1), (by omega), k + 1, p52, v53, (tx ++ (lineV xs[k]!).data.toList) ++ [UInt8.ofNat (10 : Int).toNat], rfl, ⟨by omega, fun i hi => by by_cases e : i = k; subst e; exact hc0; exact pb2 i (by omega), by rw [pc]; exact txt_step (by omega) hc0, by rw [pc, txt_step (by omega) hc0]; exact txt_len (by omega) hc0 (hlk (by omega)) (pc ▸ pd)⟩, by kernel_rfl, hp51⟩
  ·refine WP.exit (thn_x (thn_x (blk_hit (thn_n (WP.seq (wR ?_))))))
   have hp57 := hp13.pull0
   refine OPS.cons (opStep.call (some 30) [pP g7] (by kernel_rfl) (bst_c hp57) ?_)
   rintro _ w58 ⟨rfl, hf59⟩
   refine ⟨_, rfl, ?_⟩
   have hp60 := Hp.ofFr hf59
   refine oP 2 [2, 3] [.string ⟨tx.toArray⟩, iI 0] fun b61 => ?_
   refine OPS.nil (thn_n (WP.ret ?_))
   refine bodyQ.of _ rfl [.string ⟨tx.toArray⟩, iI 0] ⟨rfl, rfl, trivial⟩ ?_
   have hk : k = xs.length := by omega
   rw [hk, List.take_of_length_le (Nat.le_refl _)] at pc
   exact ⟨_, _, rfl, .inr (.inr ⟨by omega, rfl, by rw [pc]; rfl, fun x hx => by obtain ⟨i, hi⟩ := List.getElem?_of_mem hx; have hil := (List.getElem?_eq_some_iff.1 hi).1; have h_ := pb2 i (by omega); rw [getElem!_pos xs i hil, (List.getElem?_eq_some_iff.1 hi).2] at h_; exact chk_ok h_⟩), hp60.fr⟩

def PsI (s : ByteArray) (xs : List StepP) (k : Nat) : Prop := xs.map lineS = (linesB s).take k ∧ ∀ x ∈ xs, okS x ∧ inS x
theorem prs_step {s : ByteArray} {xs : List StepP} {k : Nat} {x : StepP} (hk : k < (linesB s).length) (h : PsI s xs k) (hx : okS x ∧ inS x ∧ lineS x = (linesB s)[k]!) : PsI s (xs ++ [x]) (k + 1) := by
  refine ⟨?_, fun y hy => ?_⟩
  · rw [List.map_append, h.1, List.take_succ_eq_append_getElem hk, List.map_cons, List.map_nil, hx.2.2, getElem!_pos _ k hk]
  · rcases List.mem_append.1 hy with hy | hy
    · exact h.2 y hy
    · rw [List.mem_singleton] at hy; subst hy; exact ⟨hx.1, hx.2.1⟩
theorem ps_lines {s : ByteArray} {xs : List StepP} {k i : Nat} (h : PsI s xs k) (hk : k ≤ (linesB s).length) (hi : i < k) : isL (linesB s)[i]! := by
  have hl : xs.length = k := by have := congrArg List.length h.1; rw [List.length_map, List.length_take] at this; omega
  have he : (xs.map lineS)[i]? = ((linesB s).take k)[i]? := by rw [h.1]
  rw [List.getElem?_take_of_lt hi, List.getElem?_map, List.getElem?_eq_getElem (by omega : i < xs.length), List.getElem?_eq_getElem (by omega : i < (linesB s).length)] at he
  have hm := h.2 xs[i] (List.getElem_mem _)
  rw [getElem!_pos _ i (by omega)]
  exact ⟨xs[i], hm.1, hm.2, Option.some.inj he⟩
theorem sc_Parse (s : ByteArray) (hs : s.size ≤ 8796093022200) (hlz : ∀ x ∈ linesB s, x.size ≤ 4294967280) (w : World) (hls : LibS w) :
  Calls Tryd.prog 9 #[.string s] w (fun r_ w' => ∃ a nn c cl F xs m e, r_ = .returned (.tuple #[.slice a nn c, .int .i64 m, .int .i64 e]) ∧ PrsR s xs m e ∧ Hp w Non [Res.own 31 6 (.slice a nn c) nn (cl.flatMap GStep.cells), Res.so F cl xs] w') := by
 refine calls_of Tryd.func9 rfl 37 rfl (by simp) ?_
 have hp0 := Hp.init w
 have he0 : List.map (env0 [.string s]) [0] = [.string s] := by kernel_rfl
 obtain ⟨b0, he0⟩ := toMk he0
 rw [he0]
 clear he0
 refine WP.seq (wP [0] [.string s] fun b1 => ?_)
 refine thn_n (WP.seq (wR (oP 1 [11] [.string s] fun b2 => ?_)))
 refine OPS.cons (opStep.call (some 12) [.string s] (by kernel_rfl) (sc_lines s (by omega) _) ?_)
 rintro _ w5 ⟨a7, n8, c9, rfl, hp6⟩
 refine ⟨_, rfl, ?_⟩
 have hal := own_flat (f := strc) (sz := 1) (fun _ => rfl) (by decide) hp6.get0
 have hp10 := hp0.madeQ hp6
 simp only [List.cons_append, List.nil_append] at hp10
 refine oP 1 [5] [.slice a7 n8 c9] fun b11 => ?_
 refine OPS.nil (thn_n (WP.seq (WP.seq (wP [5, 15] [.slice a7 n8 c9, .bool (decide (4096 < ((n8 : Nat) : Int)))] fun b12 => ?_))))
 refine thn_n ?_
 refine WP.test (p := 4096 < ((n8 : Nat) : Int)) rfl Bp.dec (fun h13 => ?_) (fun h13 => ?_)
 ·refine WP.seq (wP [2, 3, 4] [nS, iI 0, iI 2] fun b14 => ?_)
  refine thn_n (WP.ret (thn_r ?_))
  refine bodyQ.of _ rfl [nS, iI 0, iI 2] ⟨rfl, rfl, rfl, trivial⟩ ?_
  exact ⟨none, 0, 0, [], fun _ => False, [], _, _, rfl, .inl ⟨by have h_ := h13; omega, rfl, rfl, rfl⟩, ((hp10.nil.soNil).nilOwn 31 6)⟩
 ·refine WP.skip (thn_n (WP.seq (wP [5, 6] [.slice a7 n8 c9, nS] fun b15 => ?_)))
  refine thn_n (WP.seq (WP.seq (wP [6, 16, 17, 18] [nS, .slice a7 n8 c9, iI ((n8 : Nat) : Int), iI 0] fun b16 => ?_)))
  refine thn_n (WP.block ?_)
  have hp18 := hp10.soNil
  have hp17 := (show Hp w Non [Res.own 31 6 (nS) 0 (List.flatMap GStep.cells ([] : List GStep)), Res.so (fun _ => False) [] [], Res.own 9 1 (.slice a7 n8 c9) n8 (List.flatMap strc (linesB s))] w5 from hp18.nilOwn 31 6)
  refine WP.loop (fun mz_ e19 w20 => ∃ (k : Nat) (F : Nat → Prop) (cl : List GStep) (xs : List StepP) (ao : Option Addr) (no : Nat) (co : Nat), mz_ = (linesB s).length - k ∧ (k ≤ (linesB s).length ∧ (cl.length = k ∧ xs.length = k) ∧ PsI s xs k) ∧ List.map e19 [6, 16, 17, 18] = [.slice ao no co, .slice a7 n8 c9, iI ((n8 : Nat) : Int), iI (k : Int)] ∧ Hp w Non [Res.own 31 6 (.slice ao no co) no (List.flatMap GStep.cells cl), Res.so F cl xs, Res.own 9 1 (.slice a7 n8 c9) n8 (List.flatMap strc (linesB s))] w20) ((linesB s).length - (0)) ⟨0, (fun _ => False), [], [], none, 0, 0, rfl, ⟨Nat.zero_le _, ⟨rfl, rfl⟩, ⟨by simp, fun x hx => by cases hx⟩⟩, by kernel_rfl, hp17⟩ ?_
  rintro _ e19 w20 ⟨k, F, cl, xs, ao, no, co, rfl, hI22, hE23, hp21⟩
  obtain ⟨b24, rfl⟩ := toMk hE23
  clear hE23
  obtain ⟨pa, pb, pc⟩ := hI22
  have pe := own_flat (f := GStep.cells) (sz := 6) (fun _ => rfl) (by decide) hp21.get0
  refine WP.seq (wP [6, 16, 17, 18, 19] [.slice ao no co, .slice a7 n8 c9, iI ((n8 : Nat) : Int), iI (k : Int), .bool (decide ((k : Int) < ((n8 : Nat) : Int)))] fun b25 => ?_)
  refine thn_n (WP.seq ?_)
  refine WP.test (p := (k : Int) < ((n8 : Nat) : Int)) rfl Bp.dec (fun h26 => ?_) (fun h26 => ?_)
  ·refine WP.skip (thn_n (WP.seq (WP.block (WP.seq ?_))))
   have := own_flat (sz := 1) (fun _ => rfl) (by decide) hp21.get2
   have hy28 : ((linesB s))[k]? = some (linesB s)[k]! := get_bang (by first | (omega) | (simp only [List.length_append, List.length_cons, List.length_nil]; omega) | (simp only [List.length_take, List.length_append, List.length_cons, List.length_nil]; omega))
   refine wQ {} [.string ((linesB s)[k]!)] [6, 7, 8, 16, 17, 18] [.slice ao no co, iI (k : Int), .string ((linesB s)[k]!), .slice a7 n8 c9, iI ((n8 : Nat) : Int), iI (k : Int)] (.cons (show InB ((k : Int)) (n8) from ⟨by omega, by omega⟩) (.cons ((SlR.own (hp21.get2)).some (by omega)) (.cons (Ld.add0 (Ld.el1 (P := Tryd.prog) (t := 9) (SlR.own (hp21.get2)).rd 1 (fun _ => rfl) hy28 (o := 0) (v := .string ((linesB s)[k]!)) (by kernel_rfl))) .nil))) fun b29 => ?_
   refine thn_n (WP.seq (wR (oP 1 [6, 7, 16, 17, 18, 24] [.slice ao no co, iI (k : Int), .slice a7 n8 c9, iI ((n8 : Nat) : Int), iI (k : Int), .string ((linesB s)[k]!)] fun b30 => ?_)))
   refine OPS.cons (opStep.call (some 25) [.string ((linesB s)[k]!)] (by kernel_rfl) (sc_step ((linesB s)[k]!) (hlz _ (List.mem_of_getElem? (get_bang (by omega)))) _ (hls.fram hp21.fr)) ?_)
   rintro _ w33 ⟨s35, x36, ok37, F38, rfl, hq39, hp34⟩
   refine ⟨_, rfl, ?_⟩
   have hp40 := hp21.madeQ hp34
   simp only [List.cons_append, List.nil_append] at hp40
   cases ok37 with
   | false =>
    refine oP 3 [6, 7, 16, 17, 18, 26, 27] [.slice ao no co, iI (k : Int), .slice a7 n8 c9, iI ((n8 : Nat) : Int), iI (k : Int), GStep.val s35, bF] fun b41 => ?_
    refine OPS.cons (opStep.alloc hp40 qo0 (by kernel_rfl) (fun g44 w42 hp43 => ?_))
    refine OPS.cons (opStep.store0 hp43 rfl [iI s35.Kind, iI s35.A, iI s35.B, .string s35.Key, .slice s35.Value.a s35.Value.n s35.Value.c, .slice s35.L.a s35.L.n s35.L.c] [iI s35.Kind, iI s35.A, iI s35.B, .string s35.Key, .slice s35.Value.a s35.Value.n s35.Value.c, .slice s35.L.a s35.L.n s35.L.c] (by kernel_rfl) (fun w45 hp46 => ?_))
    refine oP 1 [6, 7, 9, 10, 16, 17, 18] [.slice ao no co, iI (k : Int), pP g44, bF, .slice a7 n8 c9, iI ((n8 : Nat) : Int), iI (k : Int)] fun b47 => ?_
    refine OPS.nil (thn_n (WP.seq (WP.seq (wP [6, 7, 9, 16, 17, 18, 29] [.slice ao no co, iI (k : Int), pP g44, .slice a7 n8 c9, iI ((n8 : Nat) : Int), iI (k : Int), bT] fun b48 => ?_))))
    refine thn_n (WP.condT rfl (WP.seq (wP [2, 3, 4] [nS, iI (k : Int), iI 82] fun b49 => ?_)))
    refine thn_n (WP.ret (thn_r ?_))
    refine blk_r ?_
    refine thn_r (thn_r ?_)
    refine blk_r ?_
    refine thn_r ?_
    refine bodyQ.of _ rfl [nS, iI (k : Int), iI 82] ⟨rfl, rfl, rfl, trivial⟩ ?_
    exact ⟨none, 0, 0, [], fun _ => False, [], _, _, rfl, .inr (.inl ⟨by omega, rfl, rfl, k, by omega, rfl, hq39.2 rfl, fun i hi => ps_lines pc (by omega) hi⟩), ((hp46.nil.soNil).nilOwn 31 6)⟩
   | true =>
    refine oP 3 [6, 7, 16, 17, 18, 26, 27] [.slice ao no co, iI (k : Int), .slice a7 n8 c9, iI ((n8 : Nat) : Int), iI (k : Int), GStep.val s35, bT] fun b50 => ?_
    refine OPS.cons (opStep.alloc hp40 qo0 (by kernel_rfl) (fun g53 w51 hp52 => ?_))
    refine OPS.cons (opStep.store0 hp52 rfl [iI s35.Kind, iI s35.A, iI s35.B, .string s35.Key, .slice s35.Value.a s35.Value.n s35.Value.c, .slice s35.L.a s35.L.n s35.L.c] [iI s35.Kind, iI s35.A, iI s35.B, .string s35.Key, .slice s35.Value.a s35.Value.n s35.Value.c, .slice s35.L.a s35.L.n s35.L.c] (by kernel_rfl) (fun w54 hp55 => ?_))
    refine oP 1 [6, 7, 9, 10, 16, 17, 18] [.slice ao no co, iI (k : Int), pP g53, bT, .slice a7 n8 c9, iI ((n8 : Nat) : Int), iI (k : Int)] fun b56 => ?_
    refine OPS.nil (thn_n (WP.seq (WP.seq (wP [6, 7, 9, 16, 17, 18, 29] [.slice ao no co, iI (k : Int), pP g53, .slice a7 n8 c9, iI ((n8 : Nat) : Int), iI (k : Int), bF] fun b57 => ?_))))
    refine thn_n (WP.condF rfl (WP.skip (thn_n (wR (oQ 2 {} [GStep.val s35] [16, 17, 18, 31, 32] [.slice a7 n8 c9, iI ((n8 : Nat) : Int), iI (k : Int), .slice ao no co, GStep.val s35] (.cons (lN 31 0 [iI s35.Kind, iI s35.A, iI s35.B, .string s35.Key, .slice s35.Value.a s35.Value.n s35.Value.c, .slice s35.L.a s35.L.n s35.L.c] hp55.get0) .nil) fun b58 => ?_)))))
    refine OPS.cons (opStep.buildSlice (E := 31) hp55 [iI s35.Kind, iI s35.A, iI s35.B, .string s35.Key, .slice s35.Value.a s35.Value.n s35.Value.c, .slice s35.L.a s35.L.n s35.L.c] (by kernel_rfl) (fun g61 w59 hp60 => ?_))
    refine OPS.cons (opStep.append3 [iI s35.Kind, iI s35.A, iI s35.B, .string s35.Key, .slice s35.Value.a s35.Value.n s35.Value.c, .slice s35.L.a s35.L.n s35.L.c] hp60 88 (by kernel_rfl) rfl rfl rfl (SlR.row (n := 1) hp60.get0 rfl).rd (List.all_eq_true.1 (by kernel_rfl)) (by decide) (by omega) (by omega) (fun a64 c65 w66 hp67 hn68 => ?_))
    rw [(show List.flatMap GStep.cells cl ++ [iI s35.Kind, iI s35.A, iI s35.B, .string s35.Key, .slice s35.Value.a s35.Value.n s35.Value.c, .slice s35.L.a s35.L.n s35.L.c] = List.flatMap GStep.cells (cl ++ [s35]) from (List.flatMap_append (xs := cl) (ys := [s35])).symm)] at hp67
    refine oP 1 [6, 16, 17, 18] [.slice a64 (no + 1) c65, .slice a7 n8 c9, iI ((n8 : Nat) : Int), iI (k : Int)] fun b69 => ?_
    refine OPS.nil (blk_n (thn_n (wQ {} [] [6, 16, 17, 18] [.slice a64 (no + 1) c65, .slice a7 n8 c9, iI ((n8 : Nat) : Int), iI ((k : Int) + 1)] (.cons (show Rng .i64 ((k : Int) + 1) from Rng.i64 (by omega)) .nil) fun b70 => ?_)))
    refine thn_n ?_
    have hp71 := hp67.pull2
    have hp72 := hp71.pull4
    have hp73 := hp72.pull1
    have hp74 := hp73.soPush
    exact ⟨(linesB s).length - (k + 1), (by omega), k + 1, fun k => F k ∨ F38 k, cl ++ [s35], xs ++ [x36], a64, no + 1, c65, rfl, ⟨by omega, by rw [List.length_append, List.length_append]; simp only [List.length_singleton]; omega, prs_step (by omega) pc (hq39.1 rfl)⟩, by kernel_rfl, ((((hp74.pull4).pull1).pull4).sub (.cons_cons _ (.cons_cons _ (.cons_cons _ (.cons _ (.cons _ (.slnil)))))))⟩
  ·refine WP.exit (thn_x (thn_x (blk_hit (thn_n (WP.seq (wP [2, 3, 4] [.slice ao no co, iI 0, iI 0] fun b75 => ?_))))))
   refine thn_n (WP.ret ?_)
   refine bodyQ.of _ rfl [.slice ao no co, iI 0, iI 0] ⟨rfl, rfl, rfl, trivial⟩ ?_
   obtain rfl : k = (linesB s).length := by omega
   exact ⟨_, _, _, _, _, _, _, _, rfl, .inr (.inr ⟨by omega, rfl, rfl, by rw [pc.1, List.take_of_length_le (Nat.le_refl _)], pc.2⟩), (hp21.sub (.cons_cons _ (.cons_cons _ (.cons _ (.slnil)))))⟩

end Go.Proofs.YtbpedjefoajegaaDoor.K
namespace Go.Proofs.YtbpedjefoajegaaDoor.K
open Go Go.RowKit
set_option linter.unusedVariables false
def intsAt (w : World) (s : SlH) : List Int := (List.range s.n).map fun i => match w.cell? ((adr s.a).add i) with | some (.int _ x) => x | _ => 0
theorem intsAt_of {w : World} {s : SlH} {ns : List Int} (h : SlR w s.a s.n (ns.flatMap i64c)) (hn : ns.length = s.n) : intsAt w s = ns := by
  apply List.ext_getElem?
  intro i
  unfold intsAt
  rw [List.getElem?_map, ← hn]
  have hm : ∀ ns : List Int, ns.flatMap i64c = ns.map (Value.int .i64) := fun ns => by
    induction ns with
    | nil => rfl
    | cons x l ih => rw [List.flatMap_cons, ih]; rfl
  by_cases hi : i < ns.length
  · rw [List.getElem?_range hi, List.getElem?_eq_getElem hi]
    have := h.rd i (.int .i64 ns[i]) (by rw [hm]; simp [hi])
    simp [this]
  · simp [hi]
/-- The plain step of one that was handed in. -/
def plainS (w : World) (s : GStep) : StepP := ⟨s.Kind, s.A, s.B, s.Key, valAt w s.Value, intsAt w s.L⟩
theorem bytesI_of {l : List Int} (h : ∀ y ∈ l, 0 ≤ y ∧ y ≤ 255) : bytesI (strOf l) = l := by
  have hd : (strOf l).data.toList = l.map fun n => UInt8.ofNat n.toNat := by
    induction l with
    | nil => rfl
    | cons x l ih =>
      rw [show x :: l = [x] ++ l from rfl, strOf_app, ih fun y hy => h y (by simp [hy])]; rfl
  unfold bytesI
  rw [hd, List.map_map]
  refine (List.map_congr_left fun x hx => ?_).trans (List.map_id _)
  have := h x hx
  show ((UInt8.ofNat x.toNat).toNat : Int) = x
  rw [UInt8.toNat_ofNat', Nat.mod_eq_of_lt (by omega)]; omega
theorem StR.input {w : World} {s : GStep} {lv ll : List Int} (h1 : SlR w s.Value.a s.Value.n (lv.flatMap u8c)) (n1 : s.Value.n = lv.length) (r1 : ∀ y ∈ lv, 0 ≤ y ∧ y ≤ 255) (h2 : SlR w s.L.a s.L.n (ll.flatMap i64c)) (n2 : s.L.n = ll.length) : StR w Tr s (plainS w s) ∧ intsAt w s.L = ll := by
  have e1 : bytesAt w s.Value = lv := bytesAt_of h1 n1.symm
  have e2 : intsAt w s.L = ll := intsAt_of h2 n2.symm
  have ev : valAt w s.Value = strOf lv := by unfold valAt; rw [e1]
  refine ⟨StR.of rfl rfl rfl rfl ⟨?_, ?_⟩ ?_ ?_, e2⟩
  · show s.Value.n = (valAt w s.Value).size
    rw [ev, strOf_len, n1]
  · show SlR w s.Value.a s.Value.n ((bytesI (valAt w s.Value)).flatMap u8c)
    rw [ev, bytesI_of r1]; exact h1
  · show s.L.n = (intsAt w s.L).length
    rw [e2, n2]
  · show SlR w s.L.a s.L.n ((intsAt w s.L).flatMap i64c)
    rw [e2]; exact h2
theorem StL.input {w : World} {cl : List GStep} (h : ∀ s ∈ cl, StR w Tr s (plainS w s)) : StL w Tr cl (cl.map (plainS w)) := by
  refine ⟨by simp, fun i hi => ?_⟩
  rw [getElem!_pos cl i hi, getElem!_pos _ i (by simpa using hi), List.getElem_map]
  exact h _ (List.getElem_mem hi)
theorem mem_all {xs : List StepP} {P : StepP → Prop} (h : ∀ x ∈ xs, P x) {i : Nat} (hi : i < xs.length) : P xs[i]! := by rw [getElem!_pos xs i hi]; exact h _ (List.getElem_mem hi)
/-! ### Text -/
theorem TxtR.good {xs : List StepP} {t : ByteArray} {e : Int} (h : TxtR xs t e) : (e = 0 ↔ xs.length ≤ 4096 ∧ ∀ x ∈ xs, okS x) ∧ (e = 0 → t = textS xs) ∧ (¬ e = 0 → t = ⟨#[]⟩) := by
  rcases h with ⟨h1, h2, h3⟩ | ⟨h1, h2, k, h3, h4, h5, h6⟩ | ⟨h1, h2, h3, h4⟩
  · exact ⟨⟨fun q => by omega, fun q => by omega⟩, fun q => by omega, fun _ => h2⟩
  · refine ⟨⟨fun q => absurd q h5, fun q => ?_⟩, fun q => absurd q h5, fun _ => h2⟩
    rw [h4]; exact chk_0 (mem_all q.2 h3)
  · exact ⟨⟨fun _ => ⟨h1, h4⟩, fun _ => h2⟩, fun _ => h3, fun q => absurd h2 q⟩
theorem textL_len {M : Nat} : ∀ (ls : List (List UInt8)), (∀ l ∈ ls, l.length ≤ M) → (textL ls).length ≤ ls.length * (M + 1)
  | [], _ => by simp [textL]
  | l :: ls, h => by
    have ih := textL_len ls fun x hx => h x (by simp [hx])
    have := h l (by simp)
    unfold textL at *
    rw [List.flatMap_cons, List.length_append, List.length_append, List.length_singleton, List.length_cons, Nat.add_mul]
    omega
theorem TxtR.size {xs : List StepP} {t : ByteArray} {e : Int} {M : Nat} (h : TxtR xs t e) (hM : ∀ x ∈ xs, (lineS x).size ≤ M) (hm : M ≤ 34359738) : t.size ≤ 8796093022200 ∧ ∀ x ∈ linesB t, x.size ≤ 4294967280 := by
  have hn : ∀ x ∈ linesB (⟨#[]⟩ : ByteArray), x.size ≤ 4294967280 := fun x hx => by simp [linesB, linesL] at hx
  rcases h with ⟨h1, h2, h3⟩ | ⟨h1, h2, _⟩ | ⟨h1, h2, h3, h4⟩
  · rw [h2]; exact ⟨Nat.zero_le _, hn⟩
  · rw [h2]; exact ⟨Nat.zero_le _, hn⟩
  · rw [h3]
    constructor
    · rw [size_list]; unfold textS; rw [List.toList_toArray]
      have := textL_len (M := M) (xs.map fun x => (lineS x).data.toList) fun l hl => by
        obtain ⟨x, hx, rfl⟩ := List.mem_map.1 hl
        rw [← size_list]; exact hM x hx
      rw [List.length_map] at this
      have h9 : xs.length * (M + 1) ≤ 4096 * (M + 1) := Nat.mul_le_mul_right _ h1
      omega
    · rw [lines_textS h4]
      intro x hx
      obtain ⟨y, hy, rfl⟩ := List.mem_map.1 hx
      have := hM y hy; omega
/-! ### lines of a text -/
theorem linesB_size {s l : ByteArray} (h : l ∈ linesB s) : l.size ≤ s.size := by
  unfold linesB at h
  obtain ⟨x, hx, rfl⟩ := List.mem_map.1 h
  rw [size_list, List.toList_toArray, size_list]
  have key : ∀ (a cur : List UInt8), ∀ x ∈ linesL cur a, x.length ≤ cur.length + a.length := by
    intro a
    induction a with
    | nil =>
      intro cur x hx
      unfold linesL at hx
      split at hx
      · cases hx
      · rw [List.mem_singleton] at hx; subst hx; simp
    | cons c r ih =>
      intro cur x hx
      unfold linesL at hx
      split at hx
      · rcases List.mem_cons.1 hx with rfl | hx
        · omega
        · have := ih [] x hx; simp only [List.length_nil, List.length_cons] at *; omega
      · have := ih _ x hx; simp only [List.length_append, List.length_cons, List.length_nil] at *; omega
  have := key _ _ x hx
  simpa using this
theorem join_ge : ∀ (ws : List ByteArray), (∀ y ∈ ws, y.size ≤ (joinB ws).size) ∧ ws.length ≤ (joinB ws).size + 1
  | [] => ⟨fun y hy => (by cases hy), Nat.zero_le _⟩
  | [x] => ⟨fun y hy => by rw [List.mem_singleton] at hy; subst hy; rw [joinB_one]; exact Nat.le_refl _, by simp⟩
  | x :: y :: r => by
    obtain ⟨h1, h2⟩ := join_ge (y :: r)
    have hs : (joinB (x :: y :: r)).size = x.size + (1 + (joinB (y :: r)).size) := by rw [joinB_cons, ByteArray.size_append, ByteArray.size_append]; rfl
    refine ⟨fun z hz => ?_, ?_⟩
    · rcases List.mem_cons.1 hz with rfl | hz
      · omega
      · have := h1 z hz; omega
    · rw [List.length_cons, hs]; omega
theorem sm_line {x : StepP} (ok : okS x) (hi : inS x) {M : Nat} (h : (lineS x).size ≤ M) (hM : M ≤ 1099511627775) : smS x := by
  obtain ⟨h1, h2⟩ := join_ge (wordsS x)
  have hl : (joinB (wordsS x)).size ≤ M := h
  refine ⟨hi, ?_, ?_, ?_⟩
  · cases hk : kK x.Kind with
    | false => rw [ok.2.2.2.1 hk]; exact Nat.zero_le _
    | true =>
      have := h1 (hexT x.Key) (by unfold wordsS; simp [hk])
      have h3 : x.Key.size ≤ (hexT x.Key).size := (byt_self (b := x.Key) (r := [])).le
      omega
  · cases hk : kV x.Kind with
    | false => have := ok.2.2.2.2.1 hk; omega
    | true =>
      have := h1 (hexT x.Value) (by unfold wordsS; simp [hk])
      have h3 : x.Value.size ≤ (hexT x.Value).size := (byt_self (b := x.Value) (r := [])).le
      omega
  · have : x.L.length ≤ (wordsS x).length := by unfold wordsS; simp only [List.length_cons, List.length_append, List.length_map]; omega
    omega
/-! ### Parse -/
section
variable {s : ByteArray} {xs : List StepP} {n e : Int}
theorem PrsR.zero (h : PrsR s xs n e) (he : e = 0) : n = 0 ∧ xs.length ≤ 4096 ∧ linesB s = xs.map lineS ∧ ∀ x ∈ xs, okS x ∧ inS x := by
  rcases h with ⟨_, _, _, h⟩ | ⟨_, _, h, _⟩ | ⟨h1, h2, _, h3, h4⟩
  · omega
  · omega
  · exact ⟨h2, by rw [h3, List.length_map] at h1; exact h1, h3, h4⟩
theorem PrsR.not (h : PrsR s xs n e) (he : ¬ e = 0) : xs = [] ∧ ((4096 < (linesB s).length ∧ n = 0 ∧ e = 2) ∨ ((linesB s).length ≤ 4096 ∧ e = 82 ∧ 0 ≤ n ∧ n < ((linesB s).length : Int) ∧ ¬ isL (linesB s)[n.toNat]! ∧ ∀ i, i < n.toNat → isL (linesB s)[i]!)) := by
  rcases h with ⟨h1, h2, h3, h4⟩ | ⟨h1, h2, h3, k, h4, h5, h6, h7⟩ | ⟨h1, h2, h3, h4⟩
  · exact ⟨h2, .inl ⟨h1, h3, h4⟩⟩
  · exact ⟨h2, .inr ⟨h1, h3, by omega, by omega, by rw [h5]; exact h6, fun i hi => h7 i (by omega)⟩⟩
  · exact absurd h3 he
/-- Lines that all are. -/
theorem PrsR.all (h : PrsR s xs n e) (hn : (linesB s).length ≤ 4096) (ha : ∀ i, i < (linesB s).length → isL (linesB s)[i]!) : e = 0 := by
  rcases h with ⟨h1, _⟩ | ⟨_, _, _, k, h4, _, h6, _⟩ | ⟨_, _, h3, _⟩
  · omega
  · exact absurd (ha k h4) h6
  · exact h3
end
def frontB (ls : List ByteArray) : ByteArray := ⟨(textL (ls.map (·.data.toList))).toArray⟩
theorem front_lines {ls : List ByteArray} (h : ∀ l ∈ ls, ∀ c ∈ l.data.toList, c ≠ 10) : linesB (frontB ls) = ls := by
  unfold linesB frontB
  rw [List.toList_toArray, lines_text]
  · rw [List.map_map]
    exact (List.map_congr_left fun x _ => mk_list x).trans (List.map_id _)
  · intro l hl
    obtain ⟨x, hx, rfl⟩ := List.mem_map.1 hl
    exact h x hx
end Go.Proofs.YtbpedjefoajegaaDoor.K
namespace Go.Proofs.YtbpedjefoajegaaDoor.K
open Go Go.RowKit
set_option linter.unusedVariables false
set_option linter.unusedSimpArgs false
theorem take_bang {ls : List ByteArray} {k i : Nat} (hi : i < k) (hk : k ≤ ls.length) : (ls.take k)[i]! = ls[i]! := by
  rw [getElem!_pos _ i (by rw [List.length_take]; omega), getElem!_pos ls i (by omega), List.getElem_take]
theorem sl_lines {ls : List ByteArray} {xs : List StepP} {k i : Nat} (h : xs.map lineS = ls.take k) (h2 : ∀ x ∈ xs, okS x ∧ inS x) (hk : k ≤ ls.length) (hi : i < k) : isL ls[i]! := by
  have hl : xs.length = k := by have := congrArg List.length h; rw [List.length_map, List.length_take] at this; omega
  have he : (xs.map lineS)[i]? = (ls.take k)[i]? := by rw [h]
  rw [List.getElem?_take_of_lt hi, List.getElem?_map, List.getElem?_eq_getElem (by omega : i < xs.length), List.getElem?_eq_getElem (by omega : i < ls.length)] at he
  have hm := h2 xs[i] (List.getElem_mem _)
  rw [getElem!_pos _ i (by omega)]
  exact ⟨xs[i], hm.1, hm.2, Option.some.inj he⟩
/-- What has been read of the first k lines: the first that is no step's, or all their steps. -/
def SlI (ls : List ByteArray) (k : Nat) (bd : Int) (xs : List StepP) : Prop :=
  (bd = -1 ∧ xs.map lineS = ls.take k ∧ ∀ x ∈ xs, okS x ∧ inS x) ∨ (0 ≤ bd ∧ bd < k ∧ ¬ isL ls[bd.toNat]! ∧ ∀ i, i < bd.toNat → isL ls[i]!)
theorem SlI.start (ls : List ByteArray) : SlI ls 0 (-1) [] := .inl ⟨rfl, by simp, by simp⟩
theorem SlI.bad {ls : List ByteArray} {xs : List StepP} {k : Nat} {bd : Int} (h : SlI ls k bd xs) (hk : k < ls.length) (hb : bd < 0) (hn : ¬ isL ls[k]!) : SlI ls (k + 1) (k : Int) xs := by
  rcases h with ⟨_, h1, h2⟩ | ⟨h1, _⟩
  · exact .inr ⟨by omega, by omega, by simpa using hn, fun i hi => sl_lines h1 h2 (by omega) (by simpa using hi)⟩
  · omega
theorem SlI.more {ls : List ByteArray} {xs : List StepP} {k : Nat} {bd : Int} {x : StepP} (h : SlI ls k bd xs) (hk : k < ls.length) (ox : okS x) (ix : inS x) (hx : lineS x = ls[k]!) : SlI ls (k + 1) bd (xs ++ [x]) := by
  rcases h with ⟨h1, h2, h3⟩ | ⟨h1, h2, h3⟩
  · refine .inl ⟨h1, ?_, fun y hy => ?_⟩
    · rw [List.map_append, h2, List.take_succ_eq_append_getElem hk, List.map_cons, List.map_nil, hx, getElem!_pos _ k hk]
    · rcases List.mem_append.1 hy with hy | hy
      · exact h3 y hy
      · rw [List.mem_singleton] at hy; subst hy; exact ⟨ox, ix⟩
  · exact .inr ⟨h1, by omega, h3⟩
theorem SlI.fin {ls : List ByteArray} {xs ys : List StepP} {k : Nat} {bd n e : Int} (h : SlI ls k bd xs) (hk : k ≤ ls.length) (h4 : k ≤ 4096) (hno : ∀ l ∈ ls.take k, ∀ c ∈ l.data.toList, c ≠ 10) (hp : PrsR (frontB (ls.take k)) ys n e) :
    (0 ≤ bd → e = 82 ∧ n = bd ∧ ys = []) ∧ (¬ 0 ≤ bd → e = 0 ∧ n = 0 ∧ ys = xs ∧ xs.map lineS = ls.take k ∧ ∀ x ∈ xs, okS x ∧ inS x) := by
  have hl := front_lines hno
  have hlen : (ls.take k).length = k := by rw [List.length_take]; omega
  rcases h with ⟨h1, h2, h3⟩ | ⟨h1, h2, h3, h5⟩
  · have hx : xs.length = k := by have := congrArg List.length h2; rw [List.length_map, hlen] at this; omega
    obtain ⟨a, b, c⟩ := hp.of (hl.trans h2.symm) h3 (by omega)
    exact ⟨fun q => by omega, fun _ => ⟨b, a, c, h2, h3⟩⟩
  · refine ⟨fun _ => ?_, fun q => by omega⟩
    rcases hp with ⟨q, _⟩ | ⟨_, q1, q2, j, q3, q4, q5, q6⟩ | ⟨_, _, _, q1, q2⟩
    · rw [hl, hlen] at q; omega
    · rw [hl] at q3 q5 q6
      rw [hlen] at q3
      have hj : j = bd.toNat := by
        rcases Nat.lt_trichotomy j bd.toNat with q | q | q
        · rw [take_bang q3 hk] at q5; exact absurd (h5 j q) q5
        · exact q
        · have h_ := q6 bd.toNat q
          rw [take_bang (by omega) hk] at h_
          exact absurd h_ h3
      exact ⟨q2, by omega, q1⟩
    · exact absurd (sl_lines (q1.symm.trans hl) q2 hk (by omega)) h3
/-- The first refusal among the first k steps. -/
def BkI (xs : List StepP) (k : Nat) (bd : Int) : Prop := (bd = 0 ∧ ∀ i, i < k → chkI xs[i]! = 0) ∨ (¬ bd = 0 ∧ ∃ j, j < xs.length ∧ bd = chkI xs[j]! ∧ ∀ i, i < j → chkI xs[i]! = 0)
theorem BkI.start (xs : List StepP) : BkI xs 0 0 := .inl ⟨rfl, fun i hi => absurd hi (Nat.not_lt_zero _)⟩
theorem BkI.more {xs : List StepP} {k : Nat} {bd : Int} (h : BkI xs k bd) (hb : bd = 0) (hk : k < xs.length) : BkI xs (k + 1) (chkI xs[k]!) := by
  rcases h with ⟨_, h⟩ | ⟨q, _⟩
  · by_cases h0 : chkI xs[k]! = 0
    · refine .inl ⟨h0, fun i hi => ?_⟩
      by_cases e : i = k
      · subst e; exact h0
      · exact h i (by omega)
    · exact .inr ⟨h0, k, hk, rfl, h⟩
  · exact absurd hb q
theorem BkI.fin {xs : List StepP} {k : Nat} {bd e : Int} {t : ByteArray} (h : BkI xs k bd) (hk : ¬ bd = 0 ∨ xs.length ≤ k) (hT : TxtR xs t e) : (4096 < xs.length → e = 2) ∧ (¬ 4096 < xs.length → e = bd) := by
  refine ⟨fun q => ?_, fun q => ?_⟩
  · rcases hT with ⟨_, _, h⟩ | ⟨h, _⟩ | ⟨h, _⟩
    · exact h
    · omega
    · omega
  · rcases hT with ⟨h, _⟩ | ⟨_, _, j, a1, a2, a3, a4⟩ | ⟨_, a1, _, a2⟩
    · omega
    · rcases h with ⟨h0, h1⟩ | ⟨h0, i, b1, b2, b3⟩
      · exact absurd (a2.trans (h1 j (by omega))) a3
      · have hij : i = j := by
          rcases Nat.lt_trichotomy i j with q | q | q
          · exact absurd (b2.trans (a4 i q)) h0
          · exact q
          · exact absurd (a2.trans (b3 j q)) a3
        rw [a2, b2, hij]
    · rcases h with ⟨h0, _⟩ | ⟨h0, i, b1, b2, _⟩
      · rw [a1, h0]
      · exact absurd (b2.trans (chk_0 (mem_all a2 b1))) h0
theorem got_sm {s : ByteArray} {xs : List StepP} {n : Int} (h : n = 0 ∧ xs.length ≤ 4096 ∧ linesB s = xs.map lineS ∧ ∀ x ∈ xs, okS x ∧ inS x) (hs : s.size ≤ 1048576) : ∀ x ∈ xs, smS x := fun x hx => sm_line (h.2.2.2 x hx).1 (h.2.2.2 x hx).2 (linesB_size (s := s) (by rw [h.2.2.1]; exact List.mem_map_of_mem hx)) (Nat.le_trans hs (by decide))
end Go.Proofs.YtbpedjefoajegaaDoor.K
namespace Go.Proofs.YtbpedjefoajegaaDoor.K
open Go Go.Proofs Go.RowKit
set_option linter.unusedVariables false
set_option linter.unusedSimpArgs false
set_option maxRecDepth 20000
set_option maxHeartbeats 4000000

structure GConfig where
  N : Int
  K : Int
  Delta : Int
def GConfig.cells (x : GConfig) : List Go.Value := [.int .i64 x.N, .int .i64 x.K, .int .i64 x.Delta]
def GConfig.val (x : GConfig) : Go.Value := .agg x.cells.toArray
instance : Inhabited GConfig := ⟨⟨0, 0, 0⟩⟩
theorem GConfig.len (x : GConfig) : x.cells.length = 3 := rfl
def okCfg (c : GConfig) : Prop := 1 ≤ c.K ∧ c.K ≤ c.N ∧ c.N ≤ 255 ∧ 0 ≤ c.Delta ∧ c.Delta ≤ 4611686018427387903
instance (c : GConfig) : Decidable (okCfg c) := by unfold okCfg; exact inferInstance
def qChk (c : GConfig) : Int := if okCfg c then 0 else 40
theorem qChk_ok {c : GConfig} (h : okCfg c) : qChk c = 0 := by unfold qChk; rw [if_pos h]
theorem qChk_no {c : GConfig} (h : ¬ okCfg c) : qChk c = 40 := by unfold qChk; rw [if_neg h]
def inN (c : GConfig) (x : Int) : Prop := 0 ≤ x ∧ x < c.N
instance (c : GConfig) (x : Int) : Decidable (inN c x) := by unfold inN; exact inferInstance
theorem q_Check (c : GConfig) (w : World) :
    Calls Tryd.prog 42 #[GConfig.val c] w (fun r_ w' => r_ = .returned (.int .i64 (qChk c)) ∧ Fram Non w w') := by
  refine calls_of Tryd.func42 rfl 28 rfl (by simp) ?_
  have hp0 := Hp.init w
  have he0 : List.map (env0 [GConfig.val c]) [0] = [GConfig.val c] := by kernel_rfl
  obtain ⟨b0, he0⟩ := toMk he0
  rw [he0]
  clear he0
  refine WP.seq ?_
  refine WP.region _ rfl (by kernel_rfl) ?_
  refine OPS.cons (opStep.box hp0 [.int .i64 c.N, .int .i64 c.K, .int .i64 c.Delta] (by kernel_rfl) (fun g3 w1 hp2 => ?_))
  refine OPS.batch 1 {} [] [1] [.pointer (some ⟨g3, 0, none⟩)] .nil (by kernel_rfl) (fun b4 => ?_)
  refine OPS.nil ?_
  refine thn_n ?_
  refine WP.seq ?_
  refine WP.cut (fun e29 w30 => ∃ (x27 : Bool), (True) ∧ Bp x27 (((c.K < 1)) ∨ ((¬ (c.K < 1)) ∧ (c.N < c.K)) ∨ ((¬ (c.K < 1)) ∧ (¬ (c.N < c.K)) ∧ (255 < c.N)) ∨ ((¬ (c.K < 1)) ∧ (¬ (c.N < c.K)) ∧ (¬ (255 < c.N)) ∧ (c.Delta < 0)) ∨ ((¬ (c.K < 1)) ∧ (¬ (c.N < c.K)) ∧ (¬ (255 < c.N)) ∧ (¬ (c.Delta < 0)) ∧ (4611686018427387903 < c.Delta))) ∧ List.map e29 [27] = [.bool x27] ∧ Hp w Non [Res.row g3 [.int .i64 c.N, .int .i64 c.K, .int .i64 c.Delta] 43] w30) ?_ ?_
  · refine WP.region _ rfl (by kernel_rfl) ?_
    refine OPS.batch 4 {} [.int .i64 c.K] [1, 6] [.pointer (some ⟨g3, 0, none⟩), .bool (decide (c.K < 1))] (.cons (Ld.row1 (P := Tryd.prog) (t := 3) (o := 1) (v := .int .i64 c.K) hp2.get0 (by kernel_rfl)) .nil) (by kernel_rfl) (fun b6 => ?_)
    by_cases h7 : c.K < 1
    · refine OPS.batch 0 {} [] [1, 6] [.pointer (some ⟨g3, 0, none⟩), .bool (decide (c.K < 1))] .nil (by kernel_rfl) (fun b8 => ?_)
      refine OPS.re [.pointer (some ⟨g3, 0, none⟩), .bool true] (by rw [show (decide (c.K < 1)) = true from Bp.dec.tt h7]) ?_
      refine OPS.batch 21 { wraps := [12, 17, 22, 27] } [] [27] [.bool true] .nil (by kernel_rfl) (fun b9 => ?_)
      refine OPS.nil ?_
      refine thn_n ?_
      exact ⟨true, trivial, Bp.of Bp.t (by first | (simp only [h7, iff_false, false_iff, iff_true, true_iff, Classical.not_not, and_true, true_and, and_false, false_and, or_true, true_or, or_false, false_or, not_true_eq_false, not_false_eq_true, and_self, or_self, iff_self]; done) | (simp [h7]; done) | grind | (simp_all; done)), by kernel_rfl, hp2⟩
    · refine OPS.batch 0 {} [] [1, 6] [.pointer (some ⟨g3, 0, none⟩), .bool (decide (c.K < 1))] .nil (by kernel_rfl) (fun b10 => ?_)
      refine OPS.re [.pointer (some ⟨g3, 0, none⟩), .bool false] (by rw [show (decide (c.K < 1)) = false from Bp.dec.ff h7]) ?_
      refine OPS.batch 7 { wraps := [12] } [.int .i64 c.K, .int .i64 c.N] [1, 13] [.pointer (some ⟨g3, 0, none⟩), .bool (decide (c.N < c.K))] (.cons (Ld.row1 (P := Tryd.prog) (t := 3) (o := 1) (v := .int .i64 c.K) hp2.get0 (by kernel_rfl)) (.cons (Ld.row1 (P := Tryd.prog) (t := 3) (o := 0) (v := .int .i64 c.N) hp2.get0 (by kernel_rfl)) .nil)) (by kernel_rfl) (fun b11 => ?_)
      by_cases h12 : c.N < c.K
      · refine OPS.batch 0 {} [] [1, 13] [.pointer (some ⟨g3, 0, none⟩), .bool (decide (c.N < c.K))] .nil (by kernel_rfl) (fun b13 => ?_)
        refine OPS.re [.pointer (some ⟨g3, 0, none⟩), .bool true] (by rw [show (decide (c.N < c.K)) = true from Bp.dec.tt h12]) ?_
        refine OPS.batch 14 { wraps := [17, 22, 27] } [] [27] [.bool true] .nil (by kernel_rfl) (fun b14 => ?_)
        refine OPS.nil ?_
        refine thn_n ?_
        exact ⟨true, trivial, Bp.of Bp.t (by first | (simp only [h7, h12, iff_false, false_iff, iff_true, true_iff, Classical.not_not, and_true, true_and, and_false, false_and, or_true, true_or, or_false, false_or, not_true_eq_false, not_false_eq_true, and_self, or_self, iff_self]; done) | (simp [h7, h12]; done) | grind | (simp_all; done)), by kernel_rfl, hp2⟩
      · refine OPS.batch 0 {} [] [1, 13] [.pointer (some ⟨g3, 0, none⟩), .bool (decide (c.N < c.K))] .nil (by kernel_rfl) (fun b15 => ?_)
        refine OPS.re [.pointer (some ⟨g3, 0, none⟩), .bool false] (by rw [show (decide (c.N < c.K)) = false from Bp.dec.ff h12]) ?_
        refine OPS.batch 5 { wraps := [17] } [.int .i64 c.N] [1, 18] [.pointer (some ⟨g3, 0, none⟩), .bool (decide (255 < c.N))] (.cons (Ld.row1 (P := Tryd.prog) (t := 3) (o := 0) (v := .int .i64 c.N) hp2.get0 (by kernel_rfl)) .nil) (by kernel_rfl) (fun b16 => ?_)
        by_cases h17 : 255 < c.N
        · refine OPS.batch 0 {} [] [1, 18] [.pointer (some ⟨g3, 0, none⟩), .bool (decide (255 < c.N))] .nil (by kernel_rfl) (fun b18 => ?_)
          refine OPS.re [.pointer (some ⟨g3, 0, none⟩), .bool true] (by rw [show (decide (255 < c.N)) = true from Bp.dec.tt h17]) ?_
          refine OPS.batch 9 { wraps := [22, 27] } [] [27] [.bool true] .nil (by kernel_rfl) (fun b19 => ?_)
          refine OPS.nil ?_
          refine thn_n ?_
          exact ⟨true, trivial, Bp.of Bp.t (by first | (simp only [h7, h12, h17, iff_false, false_iff, iff_true, true_iff, Classical.not_not, and_true, true_and, and_false, false_and, or_true, true_or, or_false, false_or, not_true_eq_false, not_false_eq_true, and_self, or_self, iff_self]; done) | (simp [h7, h12, h17]; done) | grind | (simp_all; done)), by kernel_rfl, hp2⟩
        · refine OPS.batch 0 {} [] [1, 18] [.pointer (some ⟨g3, 0, none⟩), .bool (decide (255 < c.N))] .nil (by kernel_rfl) (fun b20 => ?_)
          refine OPS.re [.pointer (some ⟨g3, 0, none⟩), .bool false] (by rw [show (decide (255 < c.N)) = false from Bp.dec.ff h17]) ?_
          refine OPS.batch 5 { wraps := [22] } [.int .i64 c.Delta] [1, 23] [.pointer (some ⟨g3, 0, none⟩), .bool (decide (c.Delta < 0))] (.cons (Ld.row1 (P := Tryd.prog) (t := 3) (o := 2) (v := .int .i64 c.Delta) hp2.get0 (by kernel_rfl)) .nil) (by kernel_rfl) (fun b21 => ?_)
          by_cases h22 : c.Delta < 0
          · refine OPS.batch 0 {} [] [1, 23] [.pointer (some ⟨g3, 0, none⟩), .bool (decide (c.Delta < 0))] .nil (by kernel_rfl) (fun b23 => ?_)
            refine OPS.re [.pointer (some ⟨g3, 0, none⟩), .bool true] (by rw [show (decide (c.Delta < 0)) = true from Bp.dec.tt h22]) ?_
            refine OPS.batch 4 { wraps := [27] } [] [27] [.bool true] .nil (by kernel_rfl) (fun b24 => ?_)
            refine OPS.nil ?_
            refine thn_n ?_
            exact ⟨true, trivial, Bp.of Bp.t (by first | (simp only [h7, h12, h17, h22, iff_false, false_iff, iff_true, true_iff, Classical.not_not, and_true, true_and, and_false, false_and, or_true, true_or, or_false, false_or, not_true_eq_false, not_false_eq_true, and_self, or_self, iff_self]; done) | (simp [h7, h12, h17, h22]; done) | grind | (simp_all; done)), by kernel_rfl, hp2⟩
          · refine OPS.batch 0 {} [] [1, 23] [.pointer (some ⟨g3, 0, none⟩), .bool (decide (c.Delta < 0))] .nil (by kernel_rfl) (fun b25 => ?_)
            refine OPS.re [.pointer (some ⟨g3, 0, none⟩), .bool false] (by rw [show (decide (c.Delta < 0)) = false from Bp.dec.ff h22]) ?_
            refine OPS.batch 4 { wraps := [27] } [.int .i64 c.Delta] [27] [.bool (decide (4611686018427387903 < c.Delta))] (.cons (Ld.row1 (P := Tryd.prog) (t := 3) (o := 2) (v := .int .i64 c.Delta) hp2.get0 (by kernel_rfl)) .nil) (by kernel_rfl) (fun b26 => ?_)
            refine OPS.nil ?_
            refine thn_n ?_
            exact ⟨decide (4611686018427387903 < c.Delta), trivial, Bp.of Bp.dec (by first | (simp only [h7, h12, h17, h22, iff_false, false_iff, iff_true, true_iff, Classical.not_not, and_true, true_and, and_false, false_and, or_true, true_or, or_false, false_or, not_true_eq_false, not_false_eq_true, and_self, or_self, iff_self]; done) | (simp [h7, h12, h17, h22]; done) | grind | (simp_all; done)), by kernel_rfl, hp2⟩
  rintro e29 w30 ⟨x27, hd32, hb28, hE33, hp31⟩
  obtain ⟨b34, rfl⟩ := toMk hE33
  clear hE33
  clear hd32
  refine WP.test (p := ((c.K < 1)) ∨ ((¬ (c.K < 1)) ∧ (c.N < c.K)) ∨ ((¬ (c.K < 1)) ∧ (¬ (c.N < c.K)) ∧ (255 < c.N)) ∨ ((¬ (c.K < 1)) ∧ (¬ (c.N < c.K)) ∧ (¬ (255 < c.N)) ∧ (c.Delta < 0)) ∨ ((¬ (c.K < 1)) ∧ (¬ (c.N < c.K)) ∧ (¬ (255 < c.N)) ∧ (¬ (c.Delta < 0)) ∧ (4611686018427387903 < c.Delta))) rfl hb28 (fun h35 => ?_) (fun h35 => ?_)
  · refine WP.seq ?_
    refine WP.pure {} [] [2] [.int .i64 40] .nil (by kernel_rfl) (fun b36 => ?_)
    refine thn_n ?_
    refine WP.ret ?_
    refine thn_r ?_
    refine bodyQ.of _ rfl [.int .i64 40] ⟨rfl, trivial⟩ ?_
    exact ⟨by simp only [pack, qChk]; rw [if_neg (by unfold okCfg; omega)], hp31.fr⟩
  · refine WP.skip ?_
    refine thn_n ?_
    refine WP.seq ?_
    refine WP.pure {} [] [2] [.int .i64 0] .nil (by kernel_rfl) (fun b37 => ?_)
    refine thn_n ?_
    refine WP.ret ?_
    refine bodyQ.of _ rfl [.int .i64 0] ⟨rfl, trivial⟩ ?_
    exact ⟨by simp only [pack, qChk]; rw [if_pos (by unfold okCfg; omega)], hp31.fr⟩

end Go.Proofs.YtbpedjefoajegaaDoor.K
namespace Go.Proofs.YtbpedjefoajegaaDoor.K
open Go Go.RowKit
set_option linter.unusedVariables false
def wCfg : ByteArray := ⟨#[99, 111, 110, 102, 105, 103]⟩
def confT (a b g d : Int) : ByteArray := (((wCfg ++ (spL ++ itoaT a)) ++ (spL ++ itoaT b)) ++ (spL ++ itoaT g)) ++ (spL ++ itoaT d)
def IsConf (s : ByteArray) : Prop := ∃ a b g d, inI a ∧ inI b ∧ inI g ∧ inI d ∧ s = confT a b g d
theorem words_conf (a b g d : Int) : wordsB (confT a b g d) = [wCfg, itoaT a, itoaT b, itoaT g, itoaT d] := by
  unfold confT
  rw [ba_assoc, ba_assoc, ba_assoc, ba_assoc, ba_assoc, ba_assoc, words_cons (by unfold noSp; decide)]
  rw [words_cons (itoa_nosp a), words_cons (itoa_nosp b), words_cons (itoa_nosp g), words_one (itoa_nosp d)]
theorem conf_no {s : ByteArray} {b1 b2 b3 b4 b5 : Bool} {v1 v2 v3 v4 : Int} (h1 : b1 = (false || (wordsB s).isEmpty)) (n1 : NumR b1 (wordsB s).tail v1 b2) (n2 : NumR b2 (wordsB s).tail.tail v2 b3) (n3 : NumR b3 (wordsB s).tail.tail.tail v3 b4) (n4 : NumR b4 (wordsB s).tail.tail.tail.tail v4 b5)
    (hc : ¬ (b5 = false ∧ ¬ 0 < (wordsB s).tail.tail.tail.tail.tail.length ∧ (wordsB s).headD ByteArray.empty = (⟨#[99, 111, 110, 102, 105, 103]⟩ : ByteArray) ∧ (((((wordsB s).headD ByteArray.empty ++ ((⟨#[32]⟩ : ByteArray) ++ itoaT v1)) ++ ((⟨#[32]⟩ : ByteArray) ++ itoaT v2)) ++ ((⟨#[32]⟩ : ByteArray) ++ itoaT v3)) ++ ((⟨#[32]⟩ : ByteArray) ++ itoaT v4)) = s)) : ¬ IsConf s := by
  rintro ⟨a, b, g, d, ra, rb, rg, rd, rfl⟩
  rw [words_conf] at *
  obtain ⟨e1, rfl⟩ := n1.yes (itoaT a) a (by rw [h1]; rfl) rfl (atoi_back ra.1 ra.2)
  obtain ⟨e2, rfl⟩ := n2.yes (itoaT b) b e1 rfl (atoi_back rb.1 rb.2)
  obtain ⟨e3, rfl⟩ := n3.yes (itoaT g) g e2 rfl (atoi_back rg.1 rg.2)
  obtain ⟨e4, rfl⟩ := n4.yes (itoaT d) d e3 rfl (atoi_back rd.1 rd.2)
  exact hc ⟨e4, by simp, rfl, rfl⟩
theorem conf_yes {s w : ByteArray} {v1 v2 v3 v4 : Int} (hw : w = (⟨#[99, 111, 110, 102, 105, 103]⟩ : ByteArray)) (hs : ((((w ++ ((⟨#[32]⟩ : ByteArray) ++ itoaT v1)) ++ ((⟨#[32]⟩ : ByteArray) ++ itoaT v2)) ++ ((⟨#[32]⟩ : ByteArray) ++ itoaT v3)) ++ ((⟨#[32]⟩ : ByteArray) ++ itoaT v4)) = s) : s = confT v1 v2 v3 v4 := by rw [← hs, hw]; rfl
/-- What Config answers. -/
def ConfR (s : ByteArray) (c : GConfig) (n e : Int) : Prop :=
  (¬ IsConf s ∧ e = 82 ∧ c = ⟨0, 0, 0⟩ ∧ n = 0) ∨
  (∃ a b g d, inI a ∧ inI b ∧ inI g ∧ inI d ∧ s = confT a b g d ∧ ((¬ okCfg ⟨a, b, g⟩ ∧ e = 40 ∧ c = ⟨0, 0, 0⟩ ∧ n = 0) ∨ (okCfg ⟨a, b, g⟩ ∧ (d < 0 ∨ 255 < d) ∧ e = 1 ∧ c = ⟨0, 0, 0⟩ ∧ n = 0) ∨ (okCfg ⟨a, b, g⟩ ∧ 0 ≤ d ∧ d ≤ 255 ∧ e = 0 ∧ c = ⟨a, b, g⟩ ∧ n = d)))
theorem confT_inj {a b g d a' b' g' d' : Int} (ra : inI a) (rb : inI b) (rg : inI g) (rd : inI d) (ra' : inI a') (rb' : inI b') (rg' : inI g') (rd' : inI d') (h : confT a b g d = confT a' b' g' d') : a = a' ∧ b = b' ∧ g = g' ∧ d = d' := by
  have := words_conf a b g d
  rw [h, words_conf] at this
  simp only [List.cons.injEq, and_true, true_and] at this
  obtain ⟨h1, h2, h3, h4⟩ := this
  exact ⟨(itoaT_inj ra' ra h1).symm, (itoaT_inj rb' rb h2).symm, (itoaT_inj rg' rg h3).symm, (itoaT_inj rd' rd h4).symm⟩
theorem ConfR.of {a b g d : Int} {c : GConfig} {n e : Int} (ra : inI a) (rb : inI b) (rg : inI g) (rd : inI d) (h : ConfR (confT a b g d) c n e) :
    (¬ okCfg ⟨a, b, g⟩ → e = 40 ∧ c = ⟨0, 0, 0⟩ ∧ n = 0) ∧ (okCfg ⟨a, b, g⟩ → (d < 0 ∨ 255 < d) → e = 1 ∧ c = ⟨0, 0, 0⟩ ∧ n = 0) ∧ (okCfg ⟨a, b, g⟩ → ¬ (d < 0 ∨ 255 < d) → e = 0 ∧ c = ⟨a, b, g⟩ ∧ n = d) := by
  rcases h with ⟨h, _⟩ | ⟨a', b', g', d', ra', rb', rg', rd', he, h⟩
  · exact absurd ⟨a, b, g, d, ra, rb, rg, rd, rfl⟩ h
  · obtain ⟨rfl, rfl, rfl, rfl⟩ := confT_inj ra rb rg rd ra' rb' rg' rd' he
    rcases h with ⟨h1, h2⟩ | ⟨h1, h2, h3⟩ | ⟨h1, h2, h3, h4⟩
    · exact ⟨fun _ => h2, fun q => absurd q h1, fun q => absurd q h1⟩
    · exact ⟨fun q => absurd h1 q, fun _ _ => h3, fun _ q => absurd h2 q⟩
    · exact ⟨fun q => absurd h1 q, fun _ q => by omega, fun _ _ => h4⟩
end Go.Proofs.YtbpedjefoajegaaDoor.K
namespace Go.Proofs.YtbpedjefoajegaaDoor.K
open Go Go.RowKit
set_option linter.unusedVariables false
structure KpR (w : World) (F : Nat → Prop) (s : GStep) (x : StepP) : Prop where
  kind : s.Kind = x.Kind
  a : s.A = x.A
  b : s.B = x.B
  key : s.Key = x.Key
  vF : F (adr s.Value.a).block
  vn : s.Value.n = x.Value.size
  vc : s.Value.n + 2 ≤ s.Value.c
  vr : SlR w s.Value.a (s.Value.n + 2) ((bytesI x.Value ++ [193, 194]).flatMap u8c)
  lF : F (adr s.L.a).block
  ln : s.L.n = x.L.length
  lc : s.L.n + 1 ≤ s.L.c
  lr : SlR w s.L.a (s.L.n + 1) ((x.L ++ [-77]).flatMap i64c)
theorem slr_front {w : World} {a : Option Addr} {n k : Nat} {f : Int → List Value} {l r : List Int} (h : SlR w a (n + k) ((l ++ r).flatMap f)) (hn : n = l.length) (hk : 0 < k) : SlR w a n (l.flatMap f) :=
  ⟨fun j u hu => h.rd j u (by rw [List.flatMap_append, List.getElem?_append_left (List.getElem?_eq_some_iff.1 hu).1]; exact hu), fun q => h.some (by omega)⟩
theorem KpR.str {w : World} {F : Nat → Prop} {s : GStep} {x : StepP} (h : KpR w F s x) : StR w F s x :=
  ⟨h.kind, h.a, h.b, h.key, fun _ => h.vF, h.vn, slr_front h.vr (by rw [bytesI_len]; exact h.vn) (by decide), fun _ => h.lF, h.ln, slr_front h.lr h.ln (by decide)⟩
theorem KpR.keep {w w' : World} {F : Nat → Prop} {s : GStep} {x : StepP} (h : KpR w F s x) (hf : ∀ b, F b → w'.heap[b]? = w.heap[b]?) : KpR w' F s x :=
  ⟨h.kind, h.a, h.b, h.key, h.vF, h.vn, h.vc, slr_keep h.vr (by rw [List.length_append, bytesI_len, h.vn]; rfl) (fun _ => hf _ h.vF), h.lF, h.ln, h.lc, slr_keep h.lr (by rw [List.length_append, h.ln]; rfl) (fun _ => hf _ h.lF)⟩
theorem KpR.wide {w : World} {F G : Nat → Prop} {s : GStep} {x : StepP} (h : KpR w F s x) (hF : ∀ k, F k → G k) : KpR w G s x := ⟨h.kind, h.a, h.b, h.key, hF _ h.vF, h.vn, h.vc, h.vr, hF _ h.lF, h.ln, h.lc, h.lr⟩
def KpL (w : World) (F : Nat → Prop) (cl : List GStep) (xs : List StepP) : Prop := cl.length = xs.length ∧ ∀ i, i < cl.length → KpR w F cl[i]! xs[i]!
theorem KpL.stl {w : World} {F : Nat → Prop} {cl : List GStep} {xs : List StepP} (h : KpL w F cl xs) : StL w F cl xs := ⟨h.1, fun i hi => (h.2 i hi).str⟩
def Res.kp (F : Nat → Prop) (cl : List GStep) (xs : List StepP) : Res := ⟨F, fun w => KpL w F cl xs, fun h hw => ⟨hw.1, fun i hi => (hw.2 i hi).keep h⟩⟩
section
variable {w w0 : World} {M : Nat → Prop} {L : List Res} {F G : Nat → Prop} {cl : List GStep} {xs : List StepP} {s : GStep} {x : StepP}
theorem Hp.kpNil (h : Hp w0 M L w) : Hp w0 M (Res.kp (fun _ => False) [] [] :: L) w :=
  h.new (Fram.refl _ _) _ ⟨rfl, fun i hi => by simp at hi⟩ fun b hb => by cases hb
theorem Hp.kpPush (h : Hp w0 M (Res.kp G [s] [x] :: Res.kp F cl xs :: L) w) : Hp w0 M (Res.kp (fun k => F k ∨ G k) (cl ++ [s]) (xs ++ [x]) :: L) w := by
  have hap := h.apart
  rw [List.pairwise_cons, List.pairwise_cons] at hap
  obtain ⟨h1, h2, h3⟩ := hap
  have hb : (Res.kp G [s] [x]).holds w := h.holds _ (by simp)
  have hv : (Res.kp F cl xs).holds w := h.holds (Res.kp F cl xs) (by simp)
  obtain ⟨v1, v2⟩ := hv
  have hbs := hb.2 0 (by simp)
  refine ⟨h.fr, ?_, ?_, ?_⟩
  · intro r hr
    rcases List.mem_cons.1 hr with rfl | hr
    · refine ⟨by simp [v1], fun i hi => ?_⟩
      have hi' : i < cl.length + 1 := by simpa using hi
      rw [apS hi', apS (by omega), ← v1]
      by_cases hlt : i < cl.length
      · rw [if_pos hlt, if_pos hlt]
        exact (v2 i hlt).wide fun _ q => .inl q
      · rw [if_neg hlt, if_neg hlt]
        exact hbs.wide fun _ q => .inr q
    · exact h.holds r (by simp [hr])
  · intro r hr k hk
    rcases List.mem_cons.1 hr with rfl | hr
    · rcases hk with hk | hk
      · exact h.range (Res.kp F cl xs) (by simp) k hk
      · exact h.range (Res.kp G [s] [x]) (by simp) k hk
    · exact h.range r (by simp [hr]) k hk
  · rw [List.pairwise_cons]
    refine ⟨fun r hr k hk hk2 => ?_, h3⟩
    rcases hk with hk | hk
    · exact h2 r hr k hk hk2
    · exact h1 r (by simp [hr]) k hk hk2
/-- An own list that is not empty lies in a block. -/
theorem own_adr {w : World} {E : TypeId} {n c : Nat} {a : Option Addr} {xs : List Value} (h : (Res.own E 1 (.slice a n c) n xs).holds w) (h0 : 0 < n) : (Value.slice a n c).ownBlock = some (adr a).block := by
  rcases h.2 with ⟨q1, q2⟩ | ⟨g, cap, cur, q1, _⟩
  · simp at q1; omega
  · have : a = some ⟨g, 0, none⟩ := by simp at q1; exact q1.1
    rw [q1, this]; rfl
/-- A step out of its copied parts. -/
theorem Hp.kpMake {E U : TypeId} (s : GStep) (x : StepP) (hk : s.Kind = x.Kind) (ha : s.A = x.A) (hb : s.B = x.B) (hy : s.Key = x.Key) (hvn : s.Value.n = x.Value.size) (hln : s.L.n = x.L.length)
    (h : Hp w0 M (Res.own U 1 (.slice s.Value.a (s.Value.n + 2) s.Value.c) (s.Value.n + 2) ((bytesI x.Value ++ [193, 194]).flatMap u8c) :: Res.own E 1 (.slice s.L.a (s.L.n + 1) s.L.c) (s.L.n + 1) ((x.L ++ [-77]).flatMap i64c) :: L) w) :
    Hp w0 M (Res.kp (fun k => k = (adr s.Value.a).block ∨ k = (adr s.L.a).block) [s] [x] :: L) w := by
  have hap := h.apart
  rw [List.pairwise_cons, List.pairwise_cons] at hap
  obtain ⟨h1, h2, h3⟩ := hap
  have hr1 : (Res.own U 1 (.slice s.Value.a (s.Value.n + 2) s.Value.c) (s.Value.n + 2) ((bytesI x.Value ++ [193, 194]).flatMap u8c)).holds w := h.holds _ (by simp)
  have hr2 : (Res.own E 1 (.slice s.L.a (s.L.n + 1) s.L.c) (s.L.n + 1) ((x.L ++ [-77]).flatMap i64c)).holds w := h.holds (Res.own E 1 (.slice s.L.a (s.L.n + 1) s.L.c) (s.L.n + 1) ((x.L ++ [-77]).flatMap i64c)) (by simp)
  have b1 := own_adr hr1 (by omega)
  have b2 := own_adr hr2 (by omega)
  refine ⟨h.fr, ?_, ?_, ?_⟩
  · intro r hr
    rcases List.mem_cons.1 hr with rfl | hr
    · refine ⟨rfl, fun i hi => ?_⟩
      obtain rfl : i = 0 := by simpa using hi
      exact ⟨hk, ha, hb, hy, .inl rfl, hvn, own_cap hr1, SlR.own hr1, .inr rfl, hln, own_cap hr2, SlR.own hr2⟩
    · exact h.holds r (by simp [hr])
  · intro r hr k hk
    rcases List.mem_cons.1 hr with rfl | hr
    · rcases hk with rfl | rfl
      · exact h.range (Res.own U 1 (.slice s.Value.a (s.Value.n + 2) s.Value.c) (s.Value.n + 2) ((bytesI x.Value ++ [193, 194]).flatMap u8c)) (by simp) _ b1
      · exact h.range (Res.own E 1 (.slice s.L.a (s.L.n + 1) s.L.c) (s.L.n + 1) ((x.L ++ [-77]).flatMap i64c)) (by simp) _ b2
    · exact h.range r (by simp [hr]) k hk
  · rw [List.pairwise_cons]
    refine ⟨fun r hr k hk hk2 => ?_, h3⟩
    rcases hk with rfl | rfl
    · exact h1 r (by simp [hr]) _ b1 hk2
    · exact h2 r hr _ b2 hk2
end
end Go.Proofs.YtbpedjefoajegaaDoor.K
namespace Go.Proofs.YtbpedjefoajegaaDoor.K
open Go Go.RowKit
set_option linter.unusedVariables false
abbrev mkS : GStep := ⟨-77, 0, 0, ByteArray.empty, ⟨none, 0, 0⟩, ⟨none, 0, 0⟩⟩
theorem TxtR.one {xs : List StepP} {t t' : ByteArray} {e e' : Int} (h : TxtR xs t e) (k : TxtR xs t' e') : t' = t ∧ e' = e := by
  by_cases h0 : e = 0
  · have k0 : e' = 0 := k.good.1.2 (h.good.1.1 h0)
    exact ⟨(k.good.2.1 k0).trans (h.good.2.1 h0).symm, k0.trans h0.symm⟩
  · have k0 : ¬ e' = 0 := fun q => h0 (h.good.1.2 (k.good.1.1 q))
    refine ⟨(k.good.2.2 k0).trans (h.good.2.2 h0).symm, ?_⟩
    rcases h with ⟨a1, a2, a3⟩ | ⟨a1, a2, i, a3, a4, a5, a6⟩ | ⟨a1, a2, _⟩
    · rcases k with ⟨b1, b2, b3⟩ | ⟨b1, _⟩ | ⟨b1, b2, _⟩
      · omega
      · omega
      · omega
    · rcases k with ⟨b1, b2, b3⟩ | ⟨b1, b2, j, b3, b4, b5, b6⟩ | ⟨b1, b2, _⟩
      · omega
      · rcases Nat.lt_trichotomy i j with q | q | q
        · exact absurd (a4.trans (b6 i q)) a5
        · subst q; rw [a4, b4]
        · exact absurd (b4.trans (a6 j q)) b5
      · exact absurd b2 k0
    · exact absurd a2 h0
theorem PrsR.one {s : ByteArray} {xs ys : List StepP} {n e m f : Int} (h : PrsR s xs n e) (k : PrsR s ys m f) : ys = xs ∧ m = n ∧ f = e := by
  have swap : ∀ {xs ys : List StepP} {n e m f : Int}, PrsR s xs n e → PrsR s ys m f → e = 0 → ys = xs ∧ m = n ∧ f = e := by
    intro xs ys n e m f h k h0
    obtain ⟨a1, a2, a3, a4⟩ := h.zero h0
    obtain ⟨b1, b2, b3⟩ := k.of a3 a4 a2
    exact ⟨b3, b1.trans a1.symm, b2.trans h0.symm⟩
  by_cases h0 : e = 0
  · exact swap h k h0
  · by_cases k0 : f = 0
    · obtain ⟨a1, a2, a3⟩ := swap k h k0
      exact ⟨a1.symm, a2.symm, a3.symm⟩
    · obtain ⟨a1, a2⟩ := h.not h0
      obtain ⟨b1, b2⟩ := k.not k0
      refine ⟨b1.trans a1.symm, ?_⟩
      rcases a2 with ⟨c1, c2, c3⟩ | ⟨c1, c2, c3, c4, c5, c6⟩
      · rcases b2 with ⟨d1, d2, d3⟩ | ⟨d1, _⟩
        · omega
        · omega
      · rcases b2 with ⟨d1, d2, d3⟩ | ⟨d1, d2, d3, d4, d5, d6⟩
        · omega
        · rcases Nat.lt_trichotomy n.toNat m.toNat with q | q | q
          · exact absurd (d6 _ q) c5
          · omega
          · exact absurd (c6 _ q) d5
theorem ConfR.one {s : ByteArray} {c d : GConfig} {n e m f : Int} (h : ConfR s c n e) (k : ConfR s d m f) : d = c ∧ m = n ∧ f = e := by
  rcases h with ⟨a1, a2, a3, a4⟩ | ⟨a, b, g, r, ra, rb, rg, rd, rfl, h⟩
  · rcases k with ⟨b1, b2, b3, b4⟩ | ⟨a', b', g', r', ra', rb', rg', rd', hs, k⟩
    · exact ⟨b3.trans a3.symm, b4.trans a4.symm, b2.trans a2.symm⟩
    · exact absurd ⟨a', b', g', r', ra', rb', rg', rd', hs⟩ a1
  · obtain ⟨k1, k2, k3⟩ := k.of ra rb rg rd
    rcases h with ⟨h1, h2, h3, h4⟩ | ⟨h1, h2, h3, h4, h5⟩ | ⟨h1, h2, h2', h3, h4, h5⟩
    · obtain ⟨q1, q2, q3⟩ := k1 h1
      exact ⟨q2.trans h3.symm, q3.trans h4.symm, q1.trans h2.symm⟩
    · obtain ⟨q1, q2, q3⟩ := k2 h1 h2
      exact ⟨q2.trans h4.symm, q3.trans h5.symm, q1.trans h3.symm⟩
    · obtain ⟨q1, q2, q3⟩ := k3 h1 (by omega)
      exact ⟨q2.trans h4.symm, q3.trans h5.symm, q1.trans h3.symm⟩
theorem PrsR.sm {s : ByteArray} {xs : List StepP} {n e : Int} (h : PrsR s xs n e) (hs : s.size ≤ 1048576) : ∀ x ∈ xs, smS x := by
  by_cases h0 : e = 0
  · exact got_sm (h.zero h0) hs
  · rw [(h.not h0).1]; intro x hx; cases hx
theorem PrsR.few {s : ByteArray} {xs : List StepP} {n e : Int} (h : PrsR s xs n e) : xs.length ≤ 4096 := by
  by_cases h0 : e = 0
  · exact (h.zero h0).2.1
  · rw [(h.not h0).1]; exact Nat.zero_le _
theorem sm_L {xs : List StepP} (h : ∀ x ∈ xs, smS x) : ∀ i, i < xs.length → xs[i]!.L.length ≤ 4611686018427387903 := fun i hi => by
  have := (h xs[i]! (by rw [getElem!_pos xs i hi]; exact List.getElem_mem hi)).2.2.2
  omega
theorem so_small {w : World} {F : Nat → Prop} {cl : List GStep} {xs : List StepP} (h : StL w F cl xs) (hs : ∀ x ∈ xs, smS x) : ∀ i, i < cl.length → cl[i]!.Value.n ≤ 1099511627776 ∧ cl[i]!.L.n ≤ 1099511627776 := fun i hi => by
  have hx : i < xs.length := by rw [← h.1]; exact hi
  have q := hs xs[i]! (by rw [getElem!_pos xs i hx]; exact List.getElem_mem hx)
  have r := h.2 i hi
  exact ⟨r.vn ▸ q.2.2.1, r.ln ▸ q.2.2.2⟩
theorem gv_front {w : World} {a : Option Addr} {n : Nat} {c2 : List GStep} (h : SlR w a (n + 1) ((c2 ++ [mkS]).flatMap GStep.cells)) (hn : c2.length = n) : SlR w a n (c2.flatMap GStep.cells) := by
  have := slr_take2 (sz := 6) (k := n) (fun _ => rfl) h (by omega)
  rwa [List.take_append_of_le_length (by omega), List.take_of_length_le (by omega)] at this
theorem gv_all {w : World} {a : Option Addr} {n k : Nat} {xs : List Value} (h : SlR w a (n + 1) xs) (hk : k = n + 1) : SlR w a k xs := hk ▸ h
theorem gv_mark {n : Nat} {c2 : List GStep} (hn : c2.length = n) : (c2 ++ [mkS])[n]!.Kind = -77 := by
  rw [apS (by omega), if_neg (by omega)]
end Go.Proofs.YtbpedjefoajegaaDoor.K
namespace Go.Proofs.YtbpedjefoajegaaDoor.K
open Go Go.Proofs Go.RowKit
set_option linter.unusedVariables false
set_option linter.unusedSimpArgs false
set_option maxRecDepth 20000
set_option maxHeartbeats 4000000

theorem ow_wide (b : SlH) (v : ByteArray) (w : World) (hn : b.n = v.size) (hbs : v.size ≤ 1099511627776) (hb : SlR w b.a b.n ((bytesI v).flatMap u8c)) :
    Calls Tryd.prog 49 #[.slice b.a b.n b.c] w (fun r_ w' => ∃ a c, r_ = .returned (.slice a b.n c) ∧ Hp w Non [Res.own 5 1 (.slice a (b.n + 2) c) (b.n + 2) ((bytesI v ++ [193, 194]).flatMap u8c)] w') := by
  refine calls_of Tryd.func49 rfl 14 rfl (by simp) ?_
  have hp0 := Hp.init w
  have he0 : List.map (env0 [.slice b.a b.n b.c]) [0] = [.slice b.a b.n b.c] := by kernel_rfl
  obtain ⟨b0, he0⟩ := toMk he0
  rw [he0]
  clear he0
  refine WP.seq ?_
  refine WP.pure {} [] [0] [.slice b.a b.n b.c] .nil (by kernel_rfl) (fun b1 => ?_)
  refine thn_n ?_
  refine WP.seq ?_
  refine WP.pure {} [] [0, 3] [.slice b.a b.n b.c, .slice none 0 0] .nil (by kernel_rfl) (fun b2 => ?_)
  refine thn_n ?_
  refine WP.seq ?_
  refine WP.region _ rfl (by kernel_rfl) ?_
  refine OPS.batch 2 {} [] [0, 4, 5] [.slice b.a b.n b.c, .slice none 0 0, .slice b.a b.n b.c] .nil (by kernel_rfl) (fun b3 => ?_)
  have hp7 := (show Hp w Non [Res.own 5 1 (.slice none 0 0) 0 (List.flatMap u8c ([] : List Int))] w from hp0.nilOwn 5 1)
  refine OPS.cons (opStep.appendS (A := []) hp7 1 (by kernel_rfl) rfl rfl (hb.at hp7) (flat_n (fun _ => rfl) (by rw [bytesI_len, hn])) (one_flat (fun _ => rfl)) (by decide) (by omega) (by omega) (fun a8 c9 w10 hp11 => ?_))
  rw [show List.flatMap u8c ([] : List Int) ++ List.flatMap u8c (bytesI v) = List.flatMap u8c ((bytesI v)) from rfl] at hp11
  simp only [List.cons_append, List.nil_append] at hp11
  refine OPS.batch 1 {} [] [0, 3] [.slice b.a b.n b.c, .slice a8 (0 + b.n) c9] .nil (by kernel_rfl) (fun b12 => ?_)
  refine OPS.nil ?_
  refine thn_n ?_
  refine WP.seq ?_
  refine WP.region _ rfl (by kernel_rfl) ?_
  refine OPS.batch 1 {} [] [0, 7] [.slice b.a b.n b.c, .slice a8 (0 + b.n) c9] .nil (by kernel_rfl) (fun b13 => ?_)
  refine OPS.cons (opStep.buildSlice (E := 5) hp11 [.int .u8 193, .int .u8 194] (by kernel_rfl) (fun g16 w14 hp15 => ?_))
  refine OPS.cons (opStep.append1 [.int .u8 193, .int .u8 194] hp15 1 (by kernel_rfl) rfl rfl rfl (SlR.row (n := 2) hp15.get0 rfl).rd (List.all_eq_true.1 (by kernel_rfl)) (by decide) (by omega) (by omega) (fun a19 c20 w21 hp22 hn23 => ?_))
  rw [(show List.flatMap u8c (bytesI v) ++ [.int .u8 193, .int .u8 194] = List.flatMap u8c ((bytesI v) ++ [193, 194]) from (List.flatMap_append (xs := (bytesI v)) (ys := [193, 194])).symm)] at hp22
  refine OPS.batch 1 {} [] [0, 3] [.slice b.a b.n b.c, .slice a19 (0 + b.n + 2) c20] .nil (by kernel_rfl) (fun b24 => ?_)
  refine OPS.nil ?_
  refine thn_n ?_
  refine WP.seq ?_
  have := own_cap hp22.get1
  refine WP.pure {} [] [2] [.slice a19 b.n c20] (.cons (show (0 : Int) ≤ ((b.n : Nat) : Int) ∧ ((b.n : Nat) : Int) ≤ ((c20 : Nat) : Int) from ⟨by omega, by omega⟩) .nil) (by kernel_rfl) (fun b25 => ?_)
  refine thn_n ?_
  refine WP.ret ?_
  refine bodyQ.of _ rfl [.slice a19 b.n c20] ⟨rfl, trivial⟩ ?_
  have h_ := (hp22.sub (.cons _ (.cons_cons _ (.slnil))))
  rw [show 0 + b.n = b.n from Nat.zero_add _] at h_
  exact ⟨_, _, rfl, h_⟩

theorem ow_copied (s : GStep) (x : StepP) (w : World) (hx : StR w Tr s x) (hs : x.Value.size ≤ 1099511627776 ∧ x.L.length ≤ 1099511627776) :
    Calls Tryd.prog 27 #[GStep.val s] w (fun r_ w' => ∃ s' F, r_ = .returned (GStep.val s') ∧ Hp w Non [Res.kp F [s'] [x]] w') := by
  have hs1 := hs.1
  have hs2 := hs.2
  have hvn := hx.vn
  have hln := hx.ln
  refine calls_of Tryd.func27 rfl 20 rfl (by simp) ?_
  have hp0 := Hp.init w
  have he0 : List.map (env0 [GStep.val s]) [0] = [GStep.val s] := by kernel_rfl
  obtain ⟨b0, he0⟩ := toMk he0
  rw [he0]
  clear he0
  refine WP.seq ?_
  refine WP.region _ rfl (by kernel_rfl) ?_
  refine OPS.cons (opStep.box hp0 [.int .i64 s.Kind, .int .i64 s.A, .int .i64 s.B, .string s.Key, .slice s.Value.a s.Value.n s.Value.c, .slice s.L.a s.L.n s.L.c] (by kernel_rfl) (fun g3 w1 hp2 => ?_))
  refine OPS.cons (opStep.alloc hp2 [.int .i64 0, .int .i64 0, .int .i64 0, .string ByteArray.empty, .slice none 0 0, .slice none 0 0] (by kernel_rfl) (fun g6 w4 hp5 => ?_))
  refine OPS.nil ?_
  refine thn_n ?_
  refine WP.seq ?_
  refine WP.region _ rfl (by kernel_rfl) ?_
  refine OPS.batch 2 {} [.slice s.Value.a s.Value.n s.Value.c] [1, 2, 5] [.pointer (some ⟨g3, 0, none⟩), .pointer (some ⟨g6, 0, none⟩), .slice s.Value.a s.Value.n s.Value.c] (.cons (Ld.row1 (P := Tryd.prog) (t := 28) (o := 4) (v := .slice s.Value.a s.Value.n s.Value.c) hp5.get1 (by kernel_rfl)) .nil) (by kernel_rfl) (fun b7 => ?_)
  refine OPS.cons (opStep.call (some 6) [.slice s.Value.a s.Value.n s.Value.c] (by kernel_rfl) (ow_wide s.Value x.Value _ hx.vn (by omega) (SlR.fram hx.vr hp5.fr)) ?_)
  rintro _ w10 ⟨a12, c13, rfl, hp11⟩
  refine ⟨_, rfl, ?_⟩
  have hp14 := hp5.madeQ hp11
  simp only [List.cons_append, List.nil_append] at hp14
  refine OPS.batch 1 {} [] [1, 2, 6, 7] [.pointer (some ⟨g3, 0, none⟩), .pointer (some ⟨g6, 0, none⟩), .slice a12 s.Value.n c13, .pointer (some ⟨g3, 4, none⟩)] .nil (by kernel_rfl) (fun b15 => ?_)
  refine OPS.cons (opStep.store2 hp14 rfl [.slice a12 s.Value.n c13] [.int .i64 s.Kind, .int .i64 s.A, .int .i64 s.B, .string s.Key, .slice a12 s.Value.n c13, .slice s.L.a s.L.n s.L.c] (by kernel_rfl) (fun w16 hp17 => ?_))
  refine OPS.nil ?_
  refine thn_n ?_
  refine WP.seq ?_
  refine WP.pure {} [] [1, 2, 3] [.pointer (some ⟨g3, 0, none⟩), .pointer (some ⟨g6, 0, none⟩), .slice none 0 0] .nil (by kernel_rfl) (fun b18 => ?_)
  refine thn_n ?_
  refine WP.seq ?_
  refine WP.region _ rfl (by kernel_rfl) ?_
  refine OPS.batch 3 {} [.slice s.L.a s.L.n s.L.c] [1, 2, 8, 10] [.pointer (some ⟨g3, 0, none⟩), .pointer (some ⟨g6, 0, none⟩), .slice none 0 0, .slice s.L.a s.L.n s.L.c] (.cons (Ld.row1 (P := Tryd.prog) (t := 29) (o := 5) (v := .slice s.L.a s.L.n s.L.c) hp17.get2 (by kernel_rfl)) .nil) (by kernel_rfl) (fun b19 => ?_)
  have hp23 := (show Hp w Non [Res.own 3 1 (.slice none 0 0) 0 (List.flatMap i64c ([] : List Int)), Res.own 5 1 (.slice a12 (s.Value.n + 2) c13) (s.Value.n + 2) (List.flatMap u8c (bytesI x.Value ++ [193, 194])), Res.row g6 [.int .i64 0, .int .i64 0, .int .i64 0, .string ByteArray.empty, .slice none 0 0, .slice none 0 0] 31, Res.row g3 [.int .i64 s.Kind, .int .i64 s.A, .int .i64 s.B, .string s.Key, .slice a12 s.Value.n c13, .slice s.L.a s.L.n s.L.c] 31] w16 from hp17.nilOwn 3 1)
  refine OPS.cons (opStep.appendS (A := []) hp23 8 (by kernel_rfl) rfl rfl (hx.lr.at hp23) (flat_n (fun _ => rfl) (by rw [hx.ln])) (one_flat (fun _ => rfl)) (by decide) (by omega) (by omega) (fun a24 c25 w26 hp27 => ?_))
  rw [show List.flatMap i64c ([] : List Int) ++ List.flatMap i64c x.L = List.flatMap i64c (x.L) from rfl] at hp27
  simp only [List.cons_append, List.nil_append] at hp27
  refine OPS.batch 1 {} [] [1, 2, 3] [.pointer (some ⟨g3, 0, none⟩), .pointer (some ⟨g6, 0, none⟩), .slice a24 (0 + s.L.n) c25] .nil (by kernel_rfl) (fun b28 => ?_)
  refine OPS.nil ?_
  refine thn_n ?_
  refine WP.seq ?_
  refine WP.region _ rfl (by kernel_rfl) ?_
  refine OPS.batch 1 {} [] [1, 2, 3, 12] [.pointer (some ⟨g3, 0, none⟩), .pointer (some ⟨g6, 0, none⟩), .slice a24 (0 + s.L.n) c25, .slice a24 (0 + s.L.n) c25] .nil (by kernel_rfl) (fun b29 => ?_)
  refine OPS.cons (opStep.buildSlice (E := 3) hp27 [.int .i64 (-77)] (by kernel_rfl) (fun g32 w30 hp31 => ?_))
  refine OPS.cons (opStep.append1 [.int .i64 (-77)] hp31 8 (by kernel_rfl) rfl rfl rfl (SlR.row (n := 1) hp31.get0 rfl).rd (List.all_eq_true.1 (by kernel_rfl)) (by decide) (by omega) (by omega) (fun a35 c36 w37 hp38 hn39 => ?_))
  rw [(show List.flatMap i64c x.L ++ [.int .i64 (-77)] = List.flatMap i64c (x.L ++ [(-77)]) from (List.flatMap_append (xs := x.L) (ys := [(-77)])).symm)] at hp38
  have := own_cap hp38.get1
  refine OPS.batch 4 {} [] [1, 2, 17, 18] [.pointer (some ⟨g3, 0, none⟩), .pointer (some ⟨g6, 0, none⟩), .slice a35 (0 + s.L.n) c36, .pointer (some ⟨g3, 5, none⟩)] (.cons (show (0 : Int) ≤ ((0 + s.L.n : Nat) : Int) ∧ ((0 + s.L.n : Nat) : Int) ≤ ((c36 : Nat) : Int) from ⟨by omega, by omega⟩) .nil) (by kernel_rfl) (fun b40 => ?_)
  refine OPS.cons (opStep.store4 hp38 rfl [.slice a35 (0 + s.L.n) c36] [.int .i64 s.Kind, .int .i64 s.A, .int .i64 s.B, .string s.Key, .slice a12 s.Value.n c13, .slice a35 (0 + s.L.n) c36] (by kernel_rfl) (fun w41 hp42 => ?_))
  refine OPS.nil ?_
  refine thn_n ?_
  refine WP.seq ?_
  refine WP.region _ rfl (by kernel_rfl) ?_
  refine OPS.batch 1 {} [.agg #[.int .i64 s.Kind, .int .i64 s.A, .int .i64 s.B, .string s.Key, .slice a12 s.Value.n c13, .slice a35 (0 + s.L.n) c36]] [2, 19] [.pointer (some ⟨g6, 0, none⟩), .agg #[.int .i64 s.Kind, .int .i64 s.A, .int .i64 s.B, .string s.Key, .slice a12 s.Value.n c13, .slice a35 (0 + s.L.n) c36]] (.cons (show Ld Tryd.prog w41 31 ⟨g3, 0, none⟩ (.agg #[.int .i64 s.Kind, .int .i64 s.A, .int .i64 s.B, .string s.Key, .slice a12 s.Value.n c13, .slice a35 (0 + s.L.n) c36]) from Ld.rowN (cs := [.int .i64 s.Kind, .int .i64 s.A, .int .i64 s.B, .string s.Key, .slice a12 s.Value.n c13, .slice a35 (0 + s.L.n) c36]) hp42.get4 (by kernel_rfl)) .nil) (by kernel_rfl) (fun b43 => ?_)
  refine OPS.cons (opStep.store3 hp42 rfl [.int .i64 s.Kind, .int .i64 s.A, .int .i64 s.B, .string s.Key, .slice a12 s.Value.n c13, .slice a35 (0 + s.L.n) c36] [.int .i64 s.Kind, .int .i64 s.A, .int .i64 s.B, .string s.Key, .slice a12 s.Value.n c13, .slice a35 (0 + s.L.n) c36] (by kernel_rfl) (fun w44 hp45 => ?_))
  refine OPS.nil ?_
  refine thn_n ?_
  refine WP.ret ?_
  refine bodyQ.of _ rfl [.agg #[.int .i64 s.Kind, .int .i64 s.A, .int .i64 s.B, .string s.Key, .slice a12 s.Value.n c13, .slice a35 (0 + s.L.n) c36]] ⟨⟨_, rfl, (show Ld Tryd.prog w44 31 ⟨g6, 0, none⟩ (.agg #[.int .i64 s.Kind, .int .i64 s.A, .int .i64 s.B, .string s.Key, .slice a12 s.Value.n c13, .slice a35 (0 + s.L.n) c36]) from Ld.rowN (cs := [.int .i64 s.Kind, .int .i64 s.A, .int .i64 s.B, .string s.Key, .slice a12 s.Value.n c13, .slice a35 (0 + s.L.n) c36]) hp45.get3 (by kernel_rfl))⟩, trivial⟩ ?_
  have h_ := (hp45.sub (.cons _ (.cons_cons _ (.cons_cons _ (.cons _ (.cons _ (.slnil)))))))
  have h2_ := h_.pull1
  rw [show 0 + s.L.n = s.L.n from Nat.zero_add _] at h2_
  exact ⟨(⟨s.Kind, s.A, s.B, s.Key, ⟨a12, s.Value.n, c13⟩, ⟨a35, s.L.n, c36⟩⟩ : GStep), _, by simp only [pack]; rw [show 0 + s.L.n = s.L.n from Nat.zero_add _]; rfl, Hp.kpMake (⟨s.Kind, s.A, s.B, s.Key, ⟨a12, s.Value.n, c13⟩, ⟨a35, s.L.n, c36⟩⟩ : GStep) x hx.kind hx.a hx.b hx.key hx.vn hx.ln h2_⟩

end Go.Proofs.YtbpedjefoajegaaDoor.K
namespace Go.Proofs.YtbpedjefoajegaaDoor.K
open Go Go.Proofs Go.RowKit
set_option linter.unusedVariables false
set_option linter.unusedSimpArgs false
set_option maxRecDepth 20000
set_option maxHeartbeats 4000000

theorem ow_steps (cl : List GStep) (xs : List StepP) (a : Option Addr) (n c : Nat) (w : World) (hn : n = cl.length) (hb : cl.length ≤ 1048576) (hsl : SlR w a n (cl.flatMap GStep.cells)) (hst : StL w Tr cl xs) (hvs : ∀ i, i < xs.length → xs[i]!.Value.size ≤ 1099511627776 ∧ xs[i]!.L.length ≤ 1099511627776) :
    Calls Tryd.prog 11 #[.slice a n c] w (fun r_ w' => ∃ a' c' c2 F, r_ = .returned (.slice a' n c') ∧ Hp w Non [Res.own 31 6 (.slice a' (n + 1) c') (n + 1) ((c2 ++ [(⟨-77, 0, 0, ByteArray.empty, ⟨none, 0, 0⟩, ⟨none, 0, 0⟩⟩ : GStep)]).flatMap GStep.cells), Res.kp F c2 xs] w') := by
  have hxl := hst.1
  refine calls_of Tryd.func11 rfl 26 rfl (by simp) ?_
  have hp0 := Hp.init w
  have he0 : List.map (env0 [.slice a n c]) [0] = [.slice a n c] := by kernel_rfl
  obtain ⟨b0, he0⟩ := toMk he0
  rw [he0]
  clear he0
  refine WP.seq ?_
  refine WP.pure {} [] [0] [.slice a n c] .nil (by kernel_rfl) (fun b1 => ?_)
  refine thn_n ?_
  refine WP.seq ?_
  refine WP.pure {} [] [0, 3] [.slice a n c, .slice none 0 0] .nil (by kernel_rfl) (fun b2 => ?_)
  refine thn_n ?_
  refine WP.seq ?_
  refine WP.seq ?_
  refine WP.pure {} [] [0, 3, 4] [.slice a n c, .slice none 0 0, .int .i64 0] .nil (by kernel_rfl) (fun b3 => ?_)
  refine thn_n ?_
  refine WP.block ?_
  have hp5 := hp0.nil.kpNil
  have hp4 := (show Hp w Non [Res.own 31 6 (.slice none 0 0) 0 (List.flatMap GStep.cells ([] : List GStep)), Res.kp (fun _ => False) [] []] w from hp5.nilOwn 31 6)
  refine WP.loop (fun mz_ e6 w7 => ∃ (k : Nat) (F : Nat → Prop) (c2 : List GStep) (x2 : List StepP) (ao : Option Addr) (no : Nat) (co : Nat), mz_ = n - k ∧ (k ≤ n ∧ c2.length = k ∧ x2 = xs.take k) ∧ List.map e6 [0, 3, 4] = [.slice a n c, .slice ao no co, .int .i64 (k : Int)] ∧ Hp w Non [Res.own 31 6 (.slice ao no co) no (List.flatMap GStep.cells c2), Res.kp F c2 x2] w7) (n - (0)) ⟨0, (fun _ => False), [], [], none, 0, 0, rfl, ⟨Nat.zero_le _, rfl, rfl⟩, by kernel_rfl, hp4⟩ ?_
  rintro _ e6 w7 ⟨k, F, c2, x2, ao, no, co, rfl, hI9, hE10, hp8⟩
  obtain ⟨b11, rfl⟩ := toMk hE10
  clear hE10
  obtain ⟨pa, pb, pxs⟩ := hI9
  have pe := own_flat (f := GStep.cells) (sz := 6) (fun _ => rfl) (by decide) hp8.get0
  refine WP.seq ?_
  refine WP.seq ?_
  refine WP.pure {} [] [0, 3, 4, 8] [.slice a n c, .slice ao no co, .int .i64 (k : Int), .bool (decide ((k : Int) < ((n : Nat) : Int)))] .nil (by kernel_rfl) (fun b12 => ?_)
  refine thn_n ?_
  refine WP.test (p := (k : Int) < ((n : Nat) : Int)) rfl Bp.dec (fun h13 => ?_) (fun h13 => ?_)
  · refine WP.skip ?_
    refine thn_n ?_
    refine WP.seq ?_
    refine WP.block ?_
    refine WP.region _ rfl (by kernel_rfl) ?_
    have hy17 : (cl)[k]? = some cl[k]! := get_bang (by first | (omega) | (simp only [List.length_append, List.length_cons, List.length_nil]; omega) | (simp only [List.length_take, List.length_append, List.length_cons, List.length_nil]; omega))
    refine OPS.batch 5 {} [GStep.val (cl[k]!)] [0, 4, 11, 15] [.slice a n c, .int .i64 (k : Int), .slice ao no co, GStep.val (cl[k]!)] (.cons (show InB ((k : Int)) (n) from ⟨by omega, by omega⟩) (.cons ((hsl.at hp8).some (by omega)) (.cons (Ld.add0 (Ld.elN (P := Tryd.prog) (t := 31) (hsl.at hp8).rd 6 (fun _ => rfl) hy17 (o := 0) (cs := [.int .i64 (cl[k]!.Kind), .int .i64 (cl[k]!.A), .int .i64 (cl[k]!.B), .string (cl[k]!.Key), .slice (cl[k]!.Value.a) (cl[k]!.Value.n) (cl[k]!.Value.c), .slice (cl[k]!.L.a) (cl[k]!.L.n) (cl[k]!.L.c)]) (by kernel_rfl))) .nil))) (by kernel_rfl) (fun b18 => ?_)
    refine OPS.cons (opStep.call (some 16) [GStep.val (cl[k]!)] (by kernel_rfl) (ow_copied (cl[k]!) xs[k]! _ ((hst.2 k (by omega)).fram hp8.fr) (hvs k (by omega))) ?_)
    rintro _ w21 ⟨s23, F24, rfl, hp22⟩
    refine ⟨_, rfl, ?_⟩
    have hp25 := hp8.madeQ hp22
    simp only [List.cons_append, List.nil_append] at hp25
    refine OPS.cons (opStep.buildSlice (E := 31) hp25 [.int .i64 s23.Kind, .int .i64 s23.A, .int .i64 s23.B, .string s23.Key, .slice s23.Value.a s23.Value.n s23.Value.c, .slice s23.L.a s23.L.n s23.L.c] (by kernel_rfl) (fun g28 w26 hp27 => ?_))
    refine OPS.cons (opStep.append2 [.int .i64 s23.Kind, .int .i64 s23.A, .int .i64 s23.B, .string s23.Key, .slice s23.Value.a s23.Value.n s23.Value.c, .slice s23.L.a s23.L.n s23.L.c] hp27 88 (by kernel_rfl) rfl rfl rfl (SlR.row (n := 1) hp27.get0 rfl).rd (List.all_eq_true.1 (by kernel_rfl)) (by decide) (by omega) (by omega) (fun a31 c32 w33 hp34 hn35 => ?_))
    rw [(show List.flatMap GStep.cells c2 ++ [.int .i64 s23.Kind, .int .i64 s23.A, .int .i64 s23.B, .string s23.Key, .slice s23.Value.a s23.Value.n s23.Value.c, .slice s23.L.a s23.L.n s23.L.c] = List.flatMap GStep.cells (c2 ++ [s23]) from (List.flatMap_append (xs := c2) (ys := [s23])).symm)] at hp34
    refine OPS.batch 1 {} [] [0, 3, 4] [.slice a n c, .slice a31 (no + 1) c32, .int .i64 (k : Int)] .nil (by kernel_rfl) (fun b36 => ?_)
    refine OPS.nil ?_
    refine blk_n ?_
    refine thn_n ?_
    refine WP.pure {} [] [0, 3, 4] [.slice a n c, .slice a31 (no + 1) c32, .int .i64 ((k : Int) + 1)] (.cons (show Rng .i64 ((k : Int) + 1) from Rng.i64 (by omega)) .nil) (by kernel_rfl) (fun b37 => ?_)
    refine thn_n ?_
    have hp38 := hp34.pull1
    have hp39 := hp38.pull3
    have hp40 := hp39.pull1
    have hp41 := hp40.kpPush
    exact ⟨n - (k + 1), (by omega), k + 1, fun k => F k ∨ F24 k, c2 ++ [s23], x2 ++ [xs[k]!], a31, no + 1, c32, rfl, ⟨by omega, by rw [List.length_append, List.length_singleton]; omega, by rw [pxs, List.take_succ_eq_append_getElem (by omega), getElem!_pos xs k (by omega)]⟩, by kernel_rfl, (((hp41.pull0).pull2).sub (.cons_cons _ (.cons_cons _ (.cons _ (.slnil)))))⟩
  · refine WP.exit ?_
    refine thn_x ?_
    refine thn_x ?_
    refine blk_hit ?_
    refine thn_n ?_
    refine WP.seq ?_
    refine WP.region _ rfl (by kernel_rfl) ?_
    refine OPS.batch 2 {} [] [0, 19, 20] [.slice a n c, .slice ao no co, .agg #[.int .i64 (-77), .int .i64 0, .int .i64 0, .string ByteArray.empty, .slice none 0 0, .slice none 0 0]] .nil (by kernel_rfl) (fun b42 => ?_)
    refine OPS.cons (opStep.buildSlice (E := 31) hp8 [.int .i64 (-77), .int .i64 0, .int .i64 0, .string ByteArray.empty, .slice none 0 0, .slice none 0 0] (by kernel_rfl) (fun g45 w43 hp44 => ?_))
    refine OPS.cons (opStep.append1 [.int .i64 (-77), .int .i64 0, .int .i64 0, .string ByteArray.empty, .slice none 0 0, .slice none 0 0] hp44 88 (by kernel_rfl) rfl rfl rfl (SlR.row (n := 1) hp44.get0 rfl).rd (List.all_eq_true.1 (by kernel_rfl)) (by decide) (by omega) (by omega) (fun a48 c49 w50 hp51 hn52 => ?_))
    rw [(show List.flatMap GStep.cells c2 ++ [.int .i64 (-77), .int .i64 0, .int .i64 0, .string ByteArray.empty, .slice none 0 0, .slice none 0 0] = List.flatMap GStep.cells (c2 ++ [(⟨(-77), 0, 0, ByteArray.empty, ⟨none, 0, 0⟩, ⟨none, 0, 0⟩⟩ : GStep)]) from (List.flatMap_append (xs := c2) (ys := [(⟨(-77), 0, 0, ByteArray.empty, ⟨none, 0, 0⟩, ⟨none, 0, 0⟩⟩ : GStep)])).symm)] at hp51
    have := own_cap hp51.get1
    refine OPS.batch 4 {} [] [2] [.slice a48 n c49] (.cons (show (0 : Int) ≤ ((n : Nat) : Int) ∧ ((n : Nat) : Int) ≤ ((c49 : Nat) : Int) from ⟨by omega, by omega⟩) .nil) (by kernel_rfl) (fun b53 => ?_)
    refine OPS.nil ?_
    refine thn_n ?_
    refine WP.ret ?_
    refine bodyQ.of _ rfl [.slice a48 n c49] ⟨rfl, trivial⟩ ?_
    have hx2 : x2 = xs := by rw [pxs, List.take_of_length_le (by omega)]
    subst hx2
    obtain rfl : no = n := by omega
    exact ⟨_, _, c2, F, rfl, (hp51.sub (.cons _ (.cons_cons _ (.cons_cons _ (.slnil)))))⟩

end Go.Proofs.YtbpedjefoajegaaDoor.K
namespace Go.Proofs.YtbpedjefoajegaaDoor.K
open Go Go.Proofs Go.RowKit
set_option linter.unusedVariables false
set_option linter.unusedSimpArgs false
set_option maxRecDepth 20000
set_option maxHeartbeats 4000000

theorem sb_same0 (K A B : Int) (Ky v : ByteArray) (l : List Int) (V1 V2 L1 L2 : SlH) (w : World) (hv1 : VB w V1 ∧ valAt w V1 = v) (hv2 : VB w V2 ∧ valAt w V2 = v) (hn1 : L1.n = l.length) (hn2 : L2.n = l.length) (hL1 : SlR w L1.a L1.n (l.flatMap i64c)) (hL2 : SlR w L2.a L2.n (l.flatMap i64c)) (hb : l.length ≤ 4611686018427387903) :
    Calls Tryd.prog 26 #[GStep.val (⟨K, A, B, Ky, V1, L1⟩ : GStep), GStep.val (⟨K, A, B, Ky, V2, L2⟩ : GStep)] w (fun x w' => x = .returned (.bool true) ∧ Fram Non w w') := by
  refine calls_of Tryd.func26 rfl 68 rfl (by simp) ?_
  have hp0 := Hp.init w
  have he0 : List.map (env0 [GStep.val (⟨K, A, B, Ky, V1, L1⟩ : GStep), GStep.val (⟨K, A, B, Ky, V2, L2⟩ : GStep)]) [0, 1] = [GStep.val (⟨K, A, B, Ky, V1, L1⟩ : GStep), GStep.val (⟨K, A, B, Ky, V2, L2⟩ : GStep)] := by kernel_rfl
  obtain ⟨b0, he0⟩ := toMk he0
  rw [he0]
  clear he0
  refine WP.seq ?_
  refine WP.region _ rfl (by kernel_rfl) ?_
  refine OPS.cons (opStep.box hp0 [.int .i64 K, .int .i64 A, .int .i64 B, .string Ky, .slice V1.a V1.n V1.c, .slice L1.a L1.n L1.c] (by kernel_rfl) (fun g3 w1 hp2 => ?_))
  refine OPS.cons (opStep.box hp2 [.int .i64 K, .int .i64 A, .int .i64 B, .string Ky, .slice V2.a V2.n V2.c, .slice L2.a L2.n L2.c] (by kernel_rfl) (fun g6 w4 hp5 => ?_))
  refine OPS.batch 1 {} [] [2, 3] [.pointer (some ⟨g3, 0, none⟩), .pointer (some ⟨g6, 0, none⟩)] .nil (by kernel_rfl) (fun b7 => ?_)
  refine OPS.nil ?_
  refine thn_n ?_
  refine WP.seq ?_
  refine WP.seq ?_
  refine WP.pure { wraps := [17, 24, 31, 40, 49], subs := [10, 16, 23, 30, 39, 48] } [.int .i64 K, .int .i64 K, .bool false, .int .i64 A, .int .i64 A, .bool false, .int .i64 B, .int .i64 B, .bool false, .string Ky, .string Ky, .bool false, .slice V1.a V1.n V1.c, .string v, .slice V2.a V2.n V2.c, .string v, .bool false, .slice L1.a L1.n L1.c, .slice L2.a L2.n L2.c, .bool false] [2, 3, 49] [.pointer (some ⟨g3, 0, none⟩), .pointer (some ⟨g6, 0, none⟩), .bool false] (.cons (Ld.row1 (P := Tryd.prog) (t := 3) (o := 0) (v := .int .i64 K) hp5.get1 (by kernel_rfl)) (.cons (Ld.row1 (P := Tryd.prog) (t := 3) (o := 0) (v := .int .i64 K) hp5.get0 (by kernel_rfl)) (.cons (show (.bool (decide (¬ (K = K))) : Go.Value) = .bool false from congrArg Value.bool (decide_eq_false (fun q_ => q_ (by first | rfl | omega)))) (.cons (Ld.row1 (P := Tryd.prog) (t := 3) (o := 1) (v := .int .i64 A) hp5.get1 (by kernel_rfl)) (.cons (Ld.row1 (P := Tryd.prog) (t := 3) (o := 1) (v := .int .i64 A) hp5.get0 (by kernel_rfl)) (.cons (show (.bool (decide (¬ (A = A))) : Go.Value) = .bool false from congrArg Value.bool (decide_eq_false (fun q_ => q_ (by first | rfl | omega)))) (.cons (Ld.row1 (P := Tryd.prog) (t := 3) (o := 2) (v := .int .i64 B) hp5.get1 (by kernel_rfl)) (.cons (Ld.row1 (P := Tryd.prog) (t := 3) (o := 2) (v := .int .i64 B) hp5.get0 (by kernel_rfl)) (.cons (show (.bool (decide (¬ (B = B))) : Go.Value) = .bool false from congrArg Value.bool (decide_eq_false (fun q_ => q_ (by first | rfl | omega)))) (.cons (Ld.row1 (P := Tryd.prog) (t := 9) (o := 3) (v := .string Ky) hp5.get1 (by kernel_rfl)) (.cons (Ld.row1 (P := Tryd.prog) (t := 9) (o := 3) (v := .string Ky) hp5.get0 (by kernel_rfl)) (.cons (show (.bool (decide (¬ (Ky = Ky))) : Go.Value) = .bool false from congrArg Value.bool (decide_eq_false (fun q_ => q_ (by first | rfl | omega)))) (.cons (Ld.row1 (P := Tryd.prog) (t := 28) (o := 4) (v := .slice V1.a V1.n V1.c) hp5.get1 (by kernel_rfl)) (.cons (show Bs Tryd.prog w4 (.slice V1.a V1.n V1.c) (.string v) from (hv1.2 ▸ VB.bs (P := Tryd.prog) hv1.1 hp5)) (.cons (Ld.row1 (P := Tryd.prog) (t := 28) (o := 4) (v := .slice V2.a V2.n V2.c) hp5.get0 (by kernel_rfl)) (.cons (show Bs Tryd.prog w4 (.slice V2.a V2.n V2.c) (.string v) from (hv2.2 ▸ VB.bs (P := Tryd.prog) hv2.1 hp5)) (.cons (show (.bool (decide (¬ (v = v))) : Go.Value) = .bool false from congrArg Value.bool (decide_eq_false (fun q_ => q_ (by first | rfl | omega)))) (.cons (Ld.row1 (P := Tryd.prog) (t := 29) (o := 5) (v := .slice L1.a L1.n L1.c) hp5.get1 (by kernel_rfl)) (.cons (Ld.row1 (P := Tryd.prog) (t := 29) (o := 5) (v := .slice L2.a L2.n L2.c) hp5.get0 (by kernel_rfl)) (.cons (show (.bool (decide (¬ (((L1.n : Nat) : Int) = ((L2.n : Nat) : Int)))) : Go.Value) = .bool false from congrArg Value.bool (decide_eq_false (fun q_ => q_ (by first | rfl | omega)))) .nil)))))))))))))))))))) (by kernel_rfl) (fun b8 => ?_)
  refine thn_n ?_
  refine WP.condF rfl ?_
  refine WP.skip ?_
  refine thn_n ?_
  refine WP.seq ?_
  refine WP.seq ?_
  refine WP.pure {} [] [2, 3, 5] [.pointer (some ⟨g3, 0, none⟩), .pointer (some ⟨g6, 0, none⟩), .int .i64 0] .nil (by kernel_rfl) (fun b9 => ?_)
  refine thn_n ?_
  refine WP.block ?_
  refine WP.loop (fun mz_ e10 w11 => ∃ (k : Nat), mz_ = l.length - k ∧ (k ≤ l.length) ∧ List.map e10 [2, 3, 5] = [.pointer (some ⟨g3, 0, none⟩), .pointer (some ⟨g6, 0, none⟩), .int .i64 (k : Int)] ∧ Hp w Non [Res.row g6 [.int .i64 K, .int .i64 A, .int .i64 B, .string Ky, .slice V2.a V2.n V2.c, .slice L2.a L2.n L2.c] 31, Res.row g3 [.int .i64 K, .int .i64 A, .int .i64 B, .string Ky, .slice V1.a V1.n V1.c, .slice L1.a L1.n L1.c] 31] w11) (l.length - (0)) ⟨0, rfl, (by omega), by kernel_rfl, hp5⟩ ?_
  rintro _ e10 w11 ⟨k, rfl, hI13, hE14, hp12⟩
  obtain ⟨b15, rfl⟩ := toMk hE14
  clear hE14
  obtain pa := hI13
  refine WP.seq ?_
  refine WP.seq ?_
  refine WP.pure {} [.slice L1.a L1.n L1.c] [2, 3, 5, 54] [.pointer (some ⟨g3, 0, none⟩), .pointer (some ⟨g6, 0, none⟩), .int .i64 (k : Int), .bool (decide ((k : Int) < ((L1.n : Nat) : Int)))] (.cons (Ld.row1 (P := Tryd.prog) (t := 29) (o := 5) (v := .slice L1.a L1.n L1.c) hp12.get1 (by kernel_rfl)) .nil) (by kernel_rfl) (fun b16 => ?_)
  refine thn_n ?_
  refine WP.test (p := (k : Int) < ((L1.n : Nat) : Int)) rfl Bp.dec (fun h17 => ?_) (fun h17 => ?_)
  · refine WP.skip ?_
    refine thn_n ?_
    refine WP.seq ?_
    refine WP.block ?_
    refine WP.seq ?_
    have hp20 := hp12.drew
    refine WP.quiet (fun w18 => Hp w Non [Res.row g6 [.int .i64 K, .int .i64 A, .int .i64 B, .string Ky, .slice V2.a V2.n V2.c, .slice L2.a L2.n L2.c] 31, Res.row g3 [.int .i64 K, .int .i64 A, .int .i64 B, .string Ky, .slice V1.a V1.n V1.c, .slice L1.a L1.n L1.c] 31] w18) (by kernel_rfl) hp20 ?_
    have hnehp20 : ∃ wz_, (fun w18 => Hp w Non [Res.row g6 [.int .i64 K, .int .i64 A, .int .i64 B, .string Ky, .slice V2.a V2.n V2.c, .slice L2.a L2.n L2.c] 31, Res.row g3 [.int .i64 K, .int .i64 A, .int .i64 B, .string Ky, .slice V1.a V1.n V1.c, .slice L1.a L1.n L1.c] 31] w18) wz_ := ⟨_, hp20⟩
    have hy24 : (l)[k]? = some l[k]! := get_bang (by first | (omega) | (simp only [List.length_append, List.length_cons, List.length_nil]; omega) | (simp only [List.length_take, List.length_append, List.length_cons, List.length_nil]; omega))
    refine QOPS.batch 11 { subs := [67] } [.slice L1.a L1.n L1.c, .int .i64 (l[k]!), .slice L2.a L2.n L2.c, .int .i64 (l[k]!), .bool false] [2, 3, 5, 67] [.pointer (some ⟨g3, 0, none⟩), .pointer (some ⟨g6, 0, none⟩), .int .i64 (k : Int), .bool false] hnehp20 (fun w21 hp22 => QB.mk (.cons (Ld.row1 (P := Tryd.prog) (t := 29) (o := 5) (v := .slice L1.a L1.n L1.c) hp22.get1 (by kernel_rfl)) (.cons (show InB ((k : Int)) (L1.n) from ⟨by omega, by omega⟩) (.cons ((hL1.at hp22).some (by omega)) (.cons (Ld.add0 (Ld.el1 (P := Tryd.prog) (t := 3) (hL1.at hp22).rd 1 (fun _ => rfl) hy24 (o := 0) (v := .int .i64 (l[k]!)) (by kernel_rfl))) (.cons (Ld.row1 (P := Tryd.prog) (t := 29) (o := 5) (v := .slice L2.a L2.n L2.c) hp22.get0 (by kernel_rfl)) (.cons (show InB ((k : Int)) (L2.n) from ⟨by omega, by omega⟩) (.cons ((hL2.at hp22).some (by omega)) (.cons (Ld.add0 (Ld.el1 (P := Tryd.prog) (t := 3) (hL2.at hp22).rd 1 (fun _ => rfl) hy24 (o := 0) (v := .int .i64 (l[k]!)) (by kernel_rfl))) (.cons (show (.bool (decide (¬ ((l[k]!) = (l[k]!)))) : Go.Value) = .bool false from congrArg Value.bool (decide_eq_false (fun q_ => q_ (by first | rfl | omega)))) .nil))))))))) (by kernel_rfl)) (fun b25 => ?_)
    refine QOPS.nil (fun w26 hp27 => ?_)
    refine thn_n ?_
    refine WP.condF rfl ?_
    refine WP.skip ?_
    refine blk_n ?_
    refine thn_n ?_
    refine WP.pure {} [] [2, 3, 5] [.pointer (some ⟨g3, 0, none⟩), .pointer (some ⟨g6, 0, none⟩), .int .i64 ((k : Int) + 1)] (.cons (show Rng .i64 ((k : Int) + 1) from Rng.i64 (by omega)) .nil) (by kernel_rfl) (fun b28 => ?_)
    refine thn_n ?_
    exact ⟨l.length - (k + 1), (by omega), k + 1, rfl, (by omega), by kernel_rfl, hp27⟩
  · refine WP.exit ?_
    refine thn_x ?_
    refine thn_x ?_
    refine blk_hit ?_
    refine thn_n ?_
    refine WP.seq ?_
    refine WP.pure {} [] [4] [.bool true] .nil (by kernel_rfl) (fun b29 => ?_)
    refine thn_n ?_
    refine WP.ret ?_
    refine bodyQ.of _ rfl [.bool true] ⟨rfl, trivial⟩ ?_
    exact ⟨rfl, hp12.fr⟩

theorem sb_same (s1 s2 : GStep) (x : StepP) (w : World) (h1 : StR w Tr s1 x) (h2 : StR w Tr s2 x) (hb : x.L.length ≤ 4611686018427387903) : Calls Tryd.prog 26 #[GStep.val s1, GStep.val s2] w (fun x w' => x = .returned (.bool true) ∧ Fram Non w w') := by
  have v1 := h1.vv
  have v2 := h2.vv
  obtain ⟨K, A, B, Ky, V1, L1⟩ := s1
  obtain ⟨K2, A2, B2, Ky2, V2, L2⟩ := s2
  obtain ⟨K', A', B', Ky', v, l⟩ := x
  obtain ⟨a1, a2, a3, a4, _, _, _, _, a9, a10⟩ := h1
  obtain ⟨b1, b2, b3, b4, _, _, _, _, b9, b10⟩ := h2
  simp only at a1 a2 a3 a4 b1 b2 b3 b4 v1 v2
  subst a1 a2 a3 a4
  cases b1
  cases b2
  cases b3
  cases b4
  exact sb_same0 _ _ _ _ v l V1 V2 L1 L2 w v1 v2 a9 b9 a10 b10 hb
theorem sb_sames (cl1 cl2 : List GStep) (xs : List StepP) (a1 a2 : Option Addr) (n1 n2 c1 c2 : Nat) (w : World) (hn : n1 = cl1.length) (hn2 : n2 = cl2.length) (hb : cl1.length ≤ 8796093022207) (h1 : SlR w a1 n1 (cl1.flatMap GStep.cells)) (h2 : SlR w a2 n2 (cl2.flatMap GStep.cells)) (hs1 : StL w Tr cl1 xs) (hs2 : StL w Tr cl2 xs) (hbz : ∀ i, i < xs.length → xs[i]!.L.length ≤ 4611686018427387903) :
    Calls Tryd.prog 10 #[.slice a1 n1 c1, .slice a2 n2 c2] w (fun x w' => x = .returned (.bool true) ∧ Fram Non w w') := by
  have hl1 := hs1.1
  have hl2 := hs2.1
  refine calls_of Tryd.func10 rfl 27 rfl (by simp) ?_
  have hp0 := Hp.init w
  have he0 : List.map (env0 [.slice a1 n1 c1, .slice a2 n2 c2]) [0, 1] = [.slice a1 n1 c1, .slice a2 n2 c2] := by kernel_rfl
  obtain ⟨b0, he0⟩ := toMk he0
  rw [he0]
  clear he0
  refine WP.seq ?_
  refine WP.pure {} [] [0, 1] [.slice a1 n1 c1, .slice a2 n2 c2] .nil (by kernel_rfl) (fun b1 => ?_)
  refine thn_n ?_
  refine WP.seq ?_
  refine WP.seq ?_
  refine WP.pure { subs := [10] } [.bool false] [0, 1, 10] [.slice a1 n1 c1, .slice a2 n2 c2, .bool false] (.cons (show (.bool (decide (¬ (((n1 : Nat) : Int) = ((n2 : Nat) : Int)))) : Go.Value) = .bool false from congrArg Value.bool (decide_eq_false (fun q_ => q_ (by first | rfl | omega)))) .nil) (by kernel_rfl) (fun b2 => ?_)
  refine thn_n ?_
  refine WP.condF rfl ?_
  refine WP.skip ?_
  refine thn_n ?_
  refine WP.seq ?_
  refine WP.seq ?_
  refine WP.pure {} [] [0, 1, 5] [.slice a1 n1 c1, .slice a2 n2 c2, .int .i64 0] .nil (by kernel_rfl) (fun b3 => ?_)
  refine thn_n ?_
  refine WP.block ?_
  refine WP.loop (fun mz_ e4 w5 => ∃ (k : Nat), mz_ = n1 - k ∧ (k ≤ n1) ∧ List.map e4 [0, 1, 5] = [.slice a1 n1 c1, .slice a2 n2 c2, .int .i64 (k : Int)] ∧ Hp w Non [] w5) (n1 - (0)) ⟨0, rfl, (by omega), by kernel_rfl, hp0⟩ ?_
  rintro _ e4 w5 ⟨k, rfl, hI7, hE8, hp6⟩
  obtain ⟨b9, rfl⟩ := toMk hE8
  clear hE8
  obtain pa := hI7
  refine WP.seq ?_
  refine WP.seq ?_
  refine WP.pure {} [] [0, 1, 5, 14] [.slice a1 n1 c1, .slice a2 n2 c2, .int .i64 (k : Int), .bool (decide ((k : Int) < ((n1 : Nat) : Int)))] .nil (by kernel_rfl) (fun b10 => ?_)
  refine thn_n ?_
  refine WP.test (p := (k : Int) < ((n1 : Nat) : Int)) rfl Bp.dec (fun h11 => ?_) (fun h11 => ?_)
  · refine WP.skip ?_
    refine thn_n ?_
    refine WP.seq ?_
    refine WP.block ?_
    refine WP.seq ?_
    have hp14 := hp6.drew
    refine WP.quiet (fun w12 => Hp w Non [] w12) (by kernel_rfl) hp14 ?_
    have hnehp14 : ∃ wz_, (fun w12 => Hp w Non [] w12) wz_ := ⟨_, hp14⟩
    have hy18 : (cl1)[k]? = some cl1[k]! := get_bang (by first | (omega) | (simp only [List.length_append, List.length_cons, List.length_nil]; omega) | (simp only [List.length_take, List.length_append, List.length_cons, List.length_nil]; omega))
    have hy20 : (cl2)[k]? = some cl2[k]! := get_bang (by first | (omega) | (simp only [List.length_append, List.length_cons, List.length_nil]; omega) | (simp only [List.length_take, List.length_append, List.length_cons, List.length_nil]; omega))
    refine QOPS.batch 8 {} [GStep.val (cl1[k]!), GStep.val (cl2[k]!)] [0, 1, 5, 20, 24] [.slice a1 n1 c1, .slice a2 n2 c2, .int .i64 (k : Int), GStep.val (cl1[k]!), GStep.val (cl2[k]!)] hnehp14 (fun w15 hp16 => QB.mk (.cons (show InB ((k : Int)) (n1) from ⟨by omega, by omega⟩) (.cons ((h1.at hp16).some (by omega)) (.cons (Ld.add0 (Ld.elN (P := Tryd.prog) (t := 31) (h1.at hp16).rd 6 (fun _ => rfl) hy18 (o := 0) (cs := [.int .i64 (cl1[k]!.Kind), .int .i64 (cl1[k]!.A), .int .i64 (cl1[k]!.B), .string (cl1[k]!.Key), .slice (cl1[k]!.Value.a) (cl1[k]!.Value.n) (cl1[k]!.Value.c), .slice (cl1[k]!.L.a) (cl1[k]!.L.n) (cl1[k]!.L.c)]) (by kernel_rfl))) (.cons (show InB ((k : Int)) (n2) from ⟨by omega, by omega⟩) (.cons ((h2.at hp16).some (by omega)) (.cons (Ld.add0 (Ld.elN (P := Tryd.prog) (t := 31) (h2.at hp16).rd 6 (fun _ => rfl) hy20 (o := 0) (cs := [.int .i64 (cl2[k]!.Kind), .int .i64 (cl2[k]!.A), .int .i64 (cl2[k]!.B), .string (cl2[k]!.Key), .slice (cl2[k]!.Value.a) (cl2[k]!.Value.n) (cl2[k]!.Value.c), .slice (cl2[k]!.L.a) (cl2[k]!.L.n) (cl2[k]!.L.c)]) (by kernel_rfl))) .nil)))))) (by kernel_rfl)) (fun b21 => ?_)
    refine QOPS.call (some 25) [GStep.val (cl1[k]!), GStep.val (cl2[k]!)] (by kernel_rfl) (fun w22 hp23 => (sb_same cl1[k]! cl2[k]! xs[k]! _ ((hs1.2 k (by omega)).fram hp23.fr) ((hs2.2 k (by omega)).fram hp23.fr) (hbz k (by omega))).mono fun _ _ h => ⟨h.1, hp23.step h.2⟩) ?_
    refine QOPS.batch 1 {} [] [0, 1, 5, 26] [.slice a1 n1 c1, .slice a2 n2 c2, .int .i64 (k : Int), .bool false] hnehp14 (fun w24 hp25 => QB.mk .nil (by kernel_rfl)) (fun b26 => ?_)
    refine QOPS.nil (fun w27 hp28 => ?_)
    refine thn_n ?_
    refine WP.condF rfl ?_
    refine WP.skip ?_
    refine blk_n ?_
    refine thn_n ?_
    refine WP.pure {} [] [0, 1, 5] [.slice a1 n1 c1, .slice a2 n2 c2, .int .i64 ((k : Int) + 1)] (.cons (show Rng .i64 ((k : Int) + 1) from Rng.i64 (by omega)) .nil) (by kernel_rfl) (fun b29 => ?_)
    refine thn_n ?_
    exact ⟨n1 - (k + 1), (by omega), k + 1, rfl, (by omega), by kernel_rfl, hp28⟩
  · refine WP.exit ?_
    refine thn_x ?_
    refine thn_x ?_
    refine blk_hit ?_
    refine thn_n ?_
    refine WP.seq ?_
    refine WP.pure {} [] [4] [.bool true] .nil (by kernel_rfl) (fun b30 => ?_)
    refine thn_n ?_
    refine WP.ret ?_
    refine bodyQ.of _ rfl [.bool true] ⟨rfl, trivial⟩ ?_
    exact ⟨rfl, hp6.fr⟩

end Go.Proofs.YtbpedjefoajegaaDoor.K
namespace Go.Proofs.YtbpedjefoajegaaDoor.K
open Go Go.Proofs Go.RowKit
set_option linter.unusedVariables false
set_option linter.unusedSimpArgs false
set_option maxRecDepth 20000
set_option maxHeartbeats 4000000

theorem ow_kept (t s : GStep) (x : StepP) (w : World) (F : Nat → Prop) (hk : KpR w F t x) (hx : StR w Tr s x) (hs : x.Value.size ≤ 1099511627776 ∧ x.L.length ≤ 1099511627776) :
    Calls Tryd.prog 16 #[GStep.val t, GStep.val s] w (fun x w' => x = .returned (.bool true) ∧ Fram Non w w') := by
  have hvn := hx.vn
  have hln := hx.ln
  have hkn := hk.vn
  have hkl := hk.ln
  have hkc := hk.vc
  have hkd := hk.lc
  obtain ⟨hs1, hs2⟩ := hs
  have hbl := bytesI_len x.Value
  have hla : (x.L ++ [-77]).length = x.L.length + 1 := by simp
  have hlb : (bytesI x.Value ++ [193, 194]).length = x.Value.size + 2 := by simp [hbl]
  have hk1 : SlR w t.L.a ((((s.L.n : Nat) : Int) + 1 : Int).toNat) (List.flatMap i64c (x.L ++ [-77])) := by rw [show (((s.L.n : Nat) : Int) + 1 : Int).toNat = t.L.n + 1 from by omega]; exact hk.lr
  have hk2 : SlR w t.Value.a ((((s.Value.n : Nat) : Int) + 2 : Int).toNat) (List.flatMap u8c (bytesI x.Value ++ [193, 194])) := by rw [show (((s.Value.n : Nat) : Int) + 2 : Int).toNat = t.Value.n + 2 from by omega]; exact hk.vr
  refine calls_of Tryd.func16 rfl 47 rfl (by simp) ?_
  have hp0 := Hp.init w
  have he0 : List.map (env0 [GStep.val t, GStep.val s]) [0, 1] = [GStep.val t, GStep.val s] := by kernel_rfl
  obtain ⟨b0, he0⟩ := toMk he0
  rw [he0]
  clear he0
  refine WP.seq ?_
  refine WP.region _ rfl (by kernel_rfl) ?_
  refine OPS.cons (opStep.box hp0 [.int .i64 t.Kind, .int .i64 t.A, .int .i64 t.B, .string t.Key, .slice t.Value.a t.Value.n t.Value.c, .slice t.L.a t.L.n t.L.c] (by kernel_rfl) (fun g3 w1 hp2 => ?_))
  refine OPS.cons (opStep.box hp2 [.int .i64 s.Kind, .int .i64 s.A, .int .i64 s.B, .string s.Key, .slice s.Value.a s.Value.n s.Value.c, .slice s.L.a s.L.n s.L.c] (by kernel_rfl) (fun g6 w4 hp5 => ?_))
  refine OPS.batch 1 {} [] [2, 3] [.pointer (some ⟨g3, 0, none⟩), .pointer (some ⟨g6, 0, none⟩)] .nil (by kernel_rfl) (fun b7 => ?_)
  refine OPS.nil ?_
  refine thn_n ?_
  refine WP.seq ?_
  refine WP.pure {} [.slice s.Value.a s.Value.n s.Value.c] [2, 3, 5] [.pointer (some ⟨g3, 0, none⟩), .pointer (some ⟨g6, 0, none⟩), .int .i64 ((s.Value.n : Nat) : Int)] (.cons (Ld.row1 (P := Tryd.prog) (t := 28) (o := 4) (v := .slice s.Value.a s.Value.n s.Value.c) hp5.get0 (by kernel_rfl)) .nil) (by kernel_rfl) (fun b8 => ?_)
  refine thn_n ?_
  refine WP.seq ?_
  refine WP.seq ?_
  have hp11 := hp5.drew
  refine WP.quiet (fun w9 => Hp w Non [Res.row g6 [.int .i64 s.Kind, .int .i64 s.A, .int .i64 s.B, .string s.Key, .slice s.Value.a s.Value.n s.Value.c, .slice s.L.a s.L.n s.L.c] 31, Res.row g3 [.int .i64 t.Kind, .int .i64 t.A, .int .i64 t.B, .string t.Key, .slice t.Value.a t.Value.n t.Value.c, .slice t.L.a t.L.n t.L.c] 31] w9) (by kernel_rfl) hp11 ?_
  have hnehp11 : ∃ wz_, (fun w9 => Hp w Non [Res.row g6 [.int .i64 s.Kind, .int .i64 s.A, .int .i64 s.B, .string s.Key, .slice s.Value.a s.Value.n s.Value.c, .slice s.L.a s.L.n s.L.c] 31, Res.row g3 [.int .i64 t.Kind, .int .i64 t.A, .int .i64 t.B, .string t.Key, .slice t.Value.a t.Value.n t.Value.c, .slice t.L.a t.L.n t.L.c] 31] w9) wz_ := ⟨_, hp11⟩
  refine QOPS.batch 2 {} [GStep.val t, GStep.val s] [2, 3, 5, 10, 11] [.pointer (some ⟨g3, 0, none⟩), .pointer (some ⟨g6, 0, none⟩), .int .i64 ((s.Value.n : Nat) : Int), GStep.val t, GStep.val s] hnehp11 (fun w12 hp13 => QB.mk (.cons (show Ld Tryd.prog w12 31 ⟨g3, 0, none⟩ (GStep.val t) from Ld.rowN (cs := [.int .i64 t.Kind, .int .i64 t.A, .int .i64 t.B, .string t.Key, .slice t.Value.a t.Value.n t.Value.c, .slice t.L.a t.L.n t.L.c]) hp13.get1 (by kernel_rfl)) (.cons (show Ld Tryd.prog w12 31 ⟨g6, 0, none⟩ (GStep.val s) from Ld.rowN (cs := [.int .i64 s.Kind, .int .i64 s.A, .int .i64 s.B, .string s.Key, .slice s.Value.a s.Value.n s.Value.c, .slice s.L.a s.L.n s.L.c]) hp13.get0 (by kernel_rfl)) .nil)) (by kernel_rfl)) (fun b14 => ?_)
  refine QOPS.call (some 12) [GStep.val t, GStep.val s] (by kernel_rfl) (fun w15 hp16 => (sb_same t s x _ (((hk.str).wide fun _ _ => trivial).fram hp16.fr) (hx.fram hp16.fr) (by omega)).mono fun _ _ h => ⟨h.1, hp16.step h.2⟩) ?_
  have hy20 : ((x.L ++ [-77]))[s.L.n]? = some (x.L ++ [-77])[s.L.n]! := get_bang (by first | (omega) | (simp only [List.length_append, List.length_cons, List.length_nil]; omega) | (simp only [List.length_take, List.length_append, List.length_cons, List.length_nil]; omega))
  refine QOPS.batch 16 { wraps := [28], subs := [27] } [.slice t.L.a t.L.n t.L.c, .slice s.L.a s.L.n s.L.c, .slice s.L.a s.L.n s.L.c, .int .i64 ((x.L ++ [-77])[s.L.n]!), .bool false] [2, 5, 28] [.pointer (some ⟨g3, 0, none⟩), .int .i64 ((s.Value.n : Nat) : Int), .bool false] hnehp11 (fun w17 hp18 => QB.mk (.cons (Ld.row1 (P := Tryd.prog) (t := 29) (o := 5) (v := .slice t.L.a t.L.n t.L.c) hp18.get1 (by kernel_rfl)) (.cons (Ld.row1 (P := Tryd.prog) (t := 29) (o := 5) (v := .slice s.L.a s.L.n s.L.c) hp18.get0 (by kernel_rfl)) (.cons (show Rng .i64 (((s.L.n : Nat) : Int) + 1) from Rng.i64 (by omega)) (.cons (show (0 : Int) ≤ (((s.L.n : Nat) : Int) + 1) ∧ (((s.L.n : Nat) : Int) + 1) ≤ ((t.L.c : Nat) : Int) from ⟨by omega, by omega⟩) (.cons (Ld.row1 (P := Tryd.prog) (t := 29) (o := 5) (v := .slice s.L.a s.L.n s.L.c) hp18.get0 (by kernel_rfl)) (.cons (show InB (((s.L.n : Nat) : Int)) ((((s.L.n : Nat) : Int) + 1 : Int).toNat) from ⟨by omega, by omega⟩) (.cons ((hk1.at hp18).some (by omega)) (.cons (Ld.add0 (Ld.el1 (P := Tryd.prog) (t := 3) (hk1.at hp18).rd 1 (fun _ => rfl) hy20 (o := 0) (v := .int .i64 ((x.L ++ [-77])[s.L.n]!)) (by kernel_rfl))) (.cons (show (.bool (decide (¬ (((x.L ++ [-77])[s.L.n]!) = (-77)))) : Go.Value) = .bool false from congrArg Value.bool (decide_eq_false (fun q_ => q_ (by first | rfl | omega | exact hm1 | exact hm2 | exact hm3 | (simp; done) | (simp_all; done))))) .nil))))))))) (by kernel_rfl)) (fun b21 => ?_)
  refine QOPS.nil (fun w22 hp23 => ?_)
  refine thn_n ?_
  refine WP.condF rfl ?_
  refine WP.skip ?_
  refine thn_n ?_
  refine WP.seq ?_
  refine WP.pure {} [.slice t.Value.a t.Value.n t.Value.c] [5, 6] [.int .i64 ((s.Value.n : Nat) : Int), .slice t.Value.a ((((s.Value.n : Nat) : Int) + 2 : Int).toNat) t.Value.c] (.cons (Ld.row1 (P := Tryd.prog) (t := 28) (o := 4) (v := .slice t.Value.a t.Value.n t.Value.c) hp23.get1 (by kernel_rfl)) (.cons (show Rng .i64 (((s.Value.n : Nat) : Int) + 2) from Rng.i64 (by omega)) (.cons (show (0 : Int) ≤ (((s.Value.n : Nat) : Int) + 2) ∧ (((s.Value.n : Nat) : Int) + 2) ≤ ((t.Value.c : Nat) : Int) from ⟨by omega, by omega⟩) .nil))) (by kernel_rfl) (fun b24 => ?_)
  refine thn_n ?_
  refine WP.seq ?_
  have hy26 : ((bytesI x.Value ++ [193, 194]))[s.Value.n]? = some (bytesI x.Value ++ [193, 194])[s.Value.n]! := get_bang (by first | (omega) | (simp only [List.length_append, List.length_cons, List.length_nil]; omega) | (simp only [List.length_take, List.length_append, List.length_cons, List.length_nil]; omega))
  have hy28 : ((bytesI x.Value ++ [193, 194]))[(((s.Value.n : Nat) : Int) + 1 : Int).toNat]? = some (bytesI x.Value ++ [193, 194])[(((s.Value.n : Nat) : Int) + 1 : Int).toNat]! := get_bang (by first | (omega) | (simp only [List.length_append, List.length_cons, List.length_nil]; omega) | (simp only [List.length_take, List.length_append, List.length_cons, List.length_nil]; omega))
  refine WP.pure { wraps := [46], subs := [38, 45] } [.int .u8 ((bytesI x.Value ++ [193, 194])[s.Value.n]!), .bool true, .int .u8 ((bytesI x.Value ++ [193, 194])[(((s.Value.n : Nat) : Int) + 1 : Int).toNat]!), .bool true] [4] [.bool true] (.cons (show InB (((s.Value.n : Nat) : Int)) ((((s.Value.n : Nat) : Int) + 2 : Int).toNat) from ⟨by omega, by omega⟩) (.cons ((hk2.at hp23).some (by omega)) (.cons (Ld.add0 (Ld.el1 (P := Tryd.prog) (t := 5) (hk2.at hp23).rd 1 (fun _ => rfl) hy26 (o := 0) (v := .int .u8 ((bytesI x.Value ++ [193, 194])[s.Value.n]!)) (by kernel_rfl))) (.cons (show (.bool (decide (((bytesI x.Value ++ [193, 194])[s.Value.n]!) = 193)) : Go.Value) = .bool true from congrArg Value.bool (decide_eq_true (by first | rfl | omega | exact hm1 | exact hm2 | exact hm3 | (simp; done) | (simp_all; done)))) (.cons (show Rng .i64 (((s.Value.n : Nat) : Int) + 1) from Rng.i64 (by omega)) (.cons (show InB (((s.Value.n : Nat) : Int) + 1) ((((s.Value.n : Nat) : Int) + 2 : Int).toNat) from ⟨by omega, by omega⟩) (.cons ((hk2.at hp23).some (by omega)) (.cons (Ld.add0 (Ld.el1 (P := Tryd.prog) (t := 5) (hk2.at hp23).rd 1 (fun _ => rfl) hy28 (o := 0) (v := .int .u8 ((bytesI x.Value ++ [193, 194])[(((s.Value.n : Nat) : Int) + 1 : Int).toNat]!)) (by kernel_rfl))) (.cons (show (.bool (decide (((bytesI x.Value ++ [193, 194])[(((s.Value.n : Nat) : Int) + 1 : Int).toNat]!) = 194)) : Go.Value) = .bool true from congrArg Value.bool (decide_eq_true (by first | rfl | omega | exact hm1 | exact hm2 | exact hm3 | (simp; done) | (simp_all; done)))) .nil))))))))) (by kernel_rfl) (fun b29 => ?_)
  refine thn_n ?_
  refine WP.ret ?_
  refine bodyQ.of _ rfl [.bool true] ⟨rfl, trivial⟩ ?_
  exact ⟨rfl, hp23.fr⟩

end Go.Proofs.YtbpedjefoajegaaDoor.K
