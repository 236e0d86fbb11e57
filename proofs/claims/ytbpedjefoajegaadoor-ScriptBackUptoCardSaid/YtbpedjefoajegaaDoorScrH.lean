/- The walks of ScrH: what each function computes. -/
import Derived.Test.YtbpedjefoajegaaDoorProg
import Derived.Test.YtbpedjefoajegaaDoorCoreO
import Derived.Test.YtbpedjefoajegaaDoorScrG
namespace Go.Proofs.YtbpedjefoajegaaDoor.K
open Go Go.Proofs Go.RowKit
set_option linter.unusedVariables false
set_option linter.unusedSimpArgs false
set_option maxRecDepth 20000
set_option maxHeartbeats 4000000

/-- What Text answers. -/
def TxtR (xs : List StepP) (t : ByteArray) (e : Int) : Prop := (4096 < xs.length ∧ t = ⟨#[]⟩ ∧ e = 2) ∨ (xs.length ≤ 4096 ∧ t = ⟨#[]⟩ ∧ ∃ k, k < xs.length ∧ e = chkI xs[k]! ∧ ¬ e = 0 ∧ ∀ i, i < k → chkI xs[i]! = 0) ∨ (xs.length ≤ 4096 ∧ e = 0 ∧ t = textS xs ∧ ∀ x ∈ xs, okS x)
def txtL (xs : List StepP) : List UInt8 := textL (xs.map fun x => (lineS x).data.toList)
theorem txt_step {xs : List StepP} {k : Nat} (h : k < xs.length) (h0 : chkI xs[k]! = 0) : (txtL (xs.take k) ++ (lineV xs[k]!).data.toList) ++ [UInt8.ofNat (10 : Int).toNat] = txtL (xs.take (k + 1)) := by
  rw [lineV_ok (chk_ok h0)]
  unfold txtL textL
  rw [List.take_succ_eq_append_getElem h, List.map_append, List.flatMap_append, getElem!_pos xs k h, List.append_assoc]
  congr 1
  simp
theorem txt_len {xs : List StepP} {k : Nat} (h : k < xs.length) (h0 : chkI xs[k]! = 0) (hM : (lineS xs[k]!).size ≤ 34359738366) (ih : (txtL (xs.take k)).length ≤ k * 34359738367) : (txtL (xs.take (k + 1))).length ≤ (k + 1) * 34359738367 := by
  rw [← txt_step h h0, List.length_append, List.length_append, List.length_singleton, lineV_ok (chk_ok h0), ← size_list]; omega
theorem sc_Text (cl : List GStep) (xs : List StepP) (a : Option Addr) (n c : Nat) (w : World) (hls : LibS w) (hn : n = cl.length) (hb : cl.length ≤ 8796093022207) (hsl : SlR w a n (cl.flatMap GStep.cells)) (hst : StL w Tr cl xs) (hsm : ∀ x ∈ xs, smS x) (hT : ∀ x ∈ xs, (lineS x).size ≤ 34359738366) :
    Calls Tryd.prog 7 #[.slice a n c] w (fun r_ w' => ∃ t e, r_ = .returned (.tuple #[.string t, .int .i64 e]) ∧ TxtR xs t e ∧ Fram Non w w') := by
  have hxl := hst.1
  refine calls_of Tryd.func7 rfl 31 rfl (by simp) ?_
  have hp0 := Hp.init w
  have he0 : List.map (env0 [.slice a n c]) [0] = [.slice a n c] := by kernel_rfl
  obtain ⟨b0, he0⟩ := toMk he0
  rw [he0]
  clear he0
  refine WP.seq ?_
  refine WP.pure {} [] [0] [.slice a n c] .nil (by kernel_rfl) (fun b1 => ?_)
  refine thn_n ?_
  refine WP.seq ?_
  refine WP.seq ?_
  refine WP.pure {} [] [0, 11] [.slice a n c, .bool (decide (4096 < ((n : Nat) : Int)))] .nil (by kernel_rfl) (fun b2 => ?_)
  refine thn_n ?_
  refine WP.test (p := 4096 < ((n : Nat) : Int)) rfl Bp.dec (fun h3 => ?_) (fun h3 => ?_)
  · refine WP.seq ?_
    refine WP.pure {} [] [2, 3] [.string ⟨#[]⟩, .int .i64 2] .nil (by kernel_rfl) (fun b4 => ?_)
    refine thn_n ?_
    refine WP.ret ?_
    refine thn_r ?_
    refine bodyQ.of _ rfl [.string ⟨#[]⟩, .int .i64 2] ⟨rfl, rfl, trivial⟩ ?_
    exact ⟨_, _, rfl, .inl ⟨by have h_ := h3; omega, rfl, rfl⟩, hp0.fr⟩
  · refine WP.skip ?_
    refine thn_n ?_
    refine WP.seq ?_
    refine WP.region _ rfl (by kernel_rfl) ?_
    refine OPS.cons (opStep.alloc hp0 [.pointer none, .slice none 0 0] (by kernel_rfl) (fun g7 w5 hp6 => ?_))
    refine OPS.nil ?_
    refine thn_n ?_
    refine WP.seq ?_
    refine WP.seq ?_
    refine WP.pure {} [] [4, 12, 13, 14] [.pointer (some ⟨g7, 0, none⟩), .slice a n c, .int .i64 ((n : Nat) : Int), .int .i64 0] .nil (by kernel_rfl) (fun b8 => ?_)
    refine thn_n ?_
    refine WP.block ?_
    have hp9 := hp6.pull0
    have hp10 := (show Hp w Non [Res.bld 48 5 g7 (.pointer none) (.slice none 0 0) (Lib.byteCells ([] : List UInt8))] w5 from hp9.newB)
    refine WP.loop (fun mz_ e11 w12 => ∃ (k : Nat) (pb : Go.Value) (vb : Go.Value) (tx : List UInt8), mz_ = n - k ∧ (k ≤ n ∧ (∀ i, i < k → chkI xs[i]! = 0) ∧ tx = txtL (xs.take k) ∧ tx.length ≤ k * 34359738367) ∧ List.map e11 [4, 12, 13, 14] = [.pointer (some ⟨g7, 0, none⟩), .slice a n c, .int .i64 ((n : Nat) : Int), .int .i64 (k : Int)] ∧ Hp w Non [Res.bld 48 5 g7 pb vb (Lib.byteCells tx)] w12) (n - (0)) ⟨0, (.pointer none), (.slice none 0 0), ([] : List UInt8), rfl, ⟨by omega, fun i hi => by omega, rfl, by simp⟩, by kernel_rfl, hp10⟩ ?_
    rintro _ e11 w12 ⟨k, pb, vb, tx, rfl, hI14, hE15, hp13⟩
    obtain ⟨b16, rfl⟩ := toMk hE15
    clear hE15
    obtain ⟨pa, pb2, pc, pd⟩ := hI14
    have hlk : k < xs.length → (lineS xs[k]!).size ≤ 34359738366 := fun q => hT _ (List.mem_of_getElem? (get_bang q))
    have hlv : k < xs.length → (lineV xs[k]!).size ≤ 34359738366 := fun q => by unfold lineV; split; exact hlk q; exact Nat.zero_le _
    have hsl2 := size_list (lineV xs[k]!)
    refine WP.seq ?_
    refine WP.pure {} [] [4, 12, 13, 14, 15] [.pointer (some ⟨g7, 0, none⟩), .slice a n c, .int .i64 ((n : Nat) : Int), .int .i64 (k : Int), .bool (decide ((k : Int) < ((n : Nat) : Int)))] .nil (by kernel_rfl) (fun b17 => ?_)
    refine thn_n ?_
    refine WP.seq ?_
    refine WP.test (p := (k : Int) < ((n : Nat) : Int)) rfl Bp.dec (fun h18 => ?_) (fun h18 => ?_)
    · refine WP.skip ?_
      refine thn_n ?_
      refine WP.seq ?_
      refine WP.block ?_
      refine WP.seq ?_
      refine WP.region _ rfl (by kernel_rfl) ?_
      have hy22 : (cl)[k]? = some cl[k]! := get_bang (by first | (omega) | (simp only [List.length_append, List.length_cons, List.length_nil]; omega) | (simp only [List.length_take, List.length_append, List.length_cons, List.length_nil]; omega))
      refine OPS.batch 2 {} [GStep.val (cl[k]!)] [4, 12, 13, 14, 17] [.pointer (some ⟨g7, 0, none⟩), .slice a n c, .int .i64 ((n : Nat) : Int), .int .i64 (k : Int), GStep.val (cl[k]!)] (.cons (show InB ((k : Int)) (n) from ⟨by omega, by omega⟩) (.cons ((hsl.at hp13).some (by omega)) (.cons (Ld.add0 (Ld.elN (P := Tryd.prog) (t := 31) (hsl.at hp13).rd 6 (fun _ => rfl) hy22 (o := 0) (cs := [.int .i64 (cl[k]!.Kind), .int .i64 (cl[k]!.A), .int .i64 (cl[k]!.B), .string (cl[k]!.Key), .slice (cl[k]!.Value.a) (cl[k]!.Value.n) (cl[k]!.Value.c), .slice (cl[k]!.L.a) (cl[k]!.L.n) (cl[k]!.L.c)]) (by kernel_rfl))) .nil))) (by kernel_rfl) (fun b23 => ?_)
      refine OPS.cons (opStep.alloc hp13 [.int .i64 0, .int .i64 0, .int .i64 0, .string ByteArray.empty, .slice none 0 0, .slice none 0 0] (by kernel_rfl) (fun g26 w24 hp25 => ?_))
      refine OPS.cons (opStep.store0 hp25 rfl [.int .i64 (cl[k]!.Kind), .int .i64 (cl[k]!.A), .int .i64 (cl[k]!.B), .string (cl[k]!.Key), .slice (cl[k]!.Value.a) (cl[k]!.Value.n) (cl[k]!.Value.c), .slice (cl[k]!.L.a) (cl[k]!.L.n) (cl[k]!.L.c)] [.int .i64 (cl[k]!.Kind), .int .i64 (cl[k]!.A), .int .i64 (cl[k]!.B), .string (cl[k]!.Key), .slice (cl[k]!.Value.a) (cl[k]!.Value.n) (cl[k]!.Value.c), .slice (cl[k]!.L.a) (cl[k]!.L.n) (cl[k]!.L.c)] (by kernel_rfl) (fun w27 hp28 => ?_))
      refine OPS.nil ?_
      refine thn_n ?_
      refine WP.seq ?_
      refine WP.region _ rfl (by kernel_rfl) ?_
      refine OPS.batch 1 {} [GStep.val (cl[k]!)] [4, 12, 13, 14, 19] [.pointer (some ⟨g7, 0, none⟩), .slice a n c, .int .i64 ((n : Nat) : Int), .int .i64 (k : Int), GStep.val (cl[k]!)] (.cons (show Ld Tryd.prog w27 31 ⟨g26, 0, none⟩ (GStep.val (cl[k]!)) from Ld.rowN (cs := [.int .i64 (cl[k]!.Kind), .int .i64 (cl[k]!.A), .int .i64 (cl[k]!.B), .string (cl[k]!.Key), .slice (cl[k]!.Value.a) (cl[k]!.Value.n) (cl[k]!.Value.c), .slice (cl[k]!.L.a) (cl[k]!.L.n) (cl[k]!.L.c)]) hp28.get0 (by kernel_rfl)) .nil) (by kernel_rfl) (fun b29 => ?_)
      refine OPS.cons (opStep.call (some 20) [GStep.val (cl[k]!)] (by kernel_rfl) (sc_Line cl[k]! xs[k]! _ (hls.fram hp28.fr) ((hst.2 k (by omega)).fram hp28.fr) (hsm _ (List.mem_of_getElem? (get_bang (by omega))))) ?_)
      rintro _ w32 ⟨rfl, hf33⟩
      refine ⟨_, rfl, ?_⟩
      have hp34 := hp28.step hf33
      refine OPS.batch 5 {} [] [4, 7, 8, 12, 13, 14] [.pointer (some ⟨g7, 0, none⟩), .string (lineV xs[k]!), .int .i64 (chkI xs[k]!), .slice a n c, .int .i64 ((n : Nat) : Int), .int .i64 (k : Int)] .nil (by kernel_rfl) (fun b35 => ?_)
      refine OPS.nil ?_
      refine thn_n ?_
      refine WP.seq ?_
      refine WP.seq ?_
      refine WP.pure {} [] [4, 7, 8, 12, 13, 14, 24] [.pointer (some ⟨g7, 0, none⟩), .string (lineV xs[k]!), .int .i64 (chkI xs[k]!), .slice a n c, .int .i64 ((n : Nat) : Int), .int .i64 (k : Int), .bool (decide (¬ ((chkI xs[k]!) = 0)))] .nil (by kernel_rfl) (fun b36 => ?_)
      refine thn_n ?_
      refine WP.test (p := ¬ ((chkI xs[k]!) = 0)) rfl Bp.dec (fun h37 => ?_) (fun h37 => ?_)
      · refine WP.seq ?_
        refine WP.pure {} [] [2, 3] [.string ⟨#[]⟩, .int .i64 (chkI xs[k]!)] .nil (by kernel_rfl) (fun b38 => ?_)
        refine thn_n ?_
        refine WP.ret ?_
        refine thn_r ?_
        refine blk_r ?_
        refine thn_r ?_
        refine thn_r ?_
        refine blk_r ?_
        refine thn_r ?_
        refine bodyQ.of _ rfl [.string ⟨#[]⟩, .int .i64 (chkI xs[k]!)] ⟨rfl, rfl, trivial⟩ ?_
        exact ⟨_, _, rfl, .inr (.inl ⟨by omega, rfl, k, by omega, rfl, by have h_ := h37; omega, pb2⟩), hp34.fr⟩
      · replace h37 := Classical.not_not.1 h37
        refine WP.skip ?_
        refine thn_n ?_
        refine WP.seq ?_
        refine WP.region _ rfl (by kernel_rfl) ?_
        refine OPS.batch 1 {} [] [4, 12, 13, 14, 26] [.pointer (some ⟨g7, 0, none⟩), .slice a n c, .int .i64 ((n : Nat) : Int), .int .i64 (k : Int), .string (lineV xs[k]!)] .nil (by kernel_rfl) (fun b39 => ?_)
        have hp42 := hp34.pull1
        refine OPS.cons (opStep.call (some 27) [.pointer (some ⟨g7, 0, none⟩), .string (lineV xs[k]!)] (by kernel_rfl) (bws_c (lineV xs[k]!) (by first | omega | (rw [List.length_append]; omega)) hp42) ?_)
        rintro _ w43 ⟨p45, v46, rfl, hp44⟩
        refine ⟨_, rfl, ?_⟩
        refine OPS.nil ?_
        refine thn_n ?_
        refine WP.region _ rfl (by kernel_rfl) ?_
        have hp49 := hp44.pull0
        refine OPS.cons (opStep.call (some 28) [.pointer (some ⟨g7, 0, none⟩), .int .u8 10] (by kernel_rfl) (bwb_c 10 ⟨by omega, by omega⟩ (by first | omega | (rw [List.length_append]; omega)) hp49) ?_)
        rintro _ w50 ⟨p52, v53, rfl, hp51⟩
        refine ⟨_, rfl, ?_⟩
        refine OPS.nil ?_
        refine blk_n ?_
        refine thn_n ?_
        refine WP.pure {} [] [4, 12, 13, 14] [.pointer (some ⟨g7, 0, none⟩), .slice a n c, .int .i64 ((n : Nat) : Int), .int .i64 ((k : Int) + 1)] (.cons (show Rng .i64 ((k : Int) + 1) from Rng.i64 (by omega)) .nil) (by kernel_rfl) (fun b54 => ?_)
        refine thn_n ?_
        have hc0 : chkI xs[k]! = 0 := by have h_ := h37; omega
        exact ⟨n - (k + 1), (by omega), k + 1, p52, v53, (tx ++ (lineV xs[k]!).data.toList) ++ [UInt8.ofNat (10 : Int).toNat], rfl, ⟨by omega, fun i hi => by by_cases e : i = k; subst e; exact hc0; exact pb2 i (by omega), by rw [pc]; exact txt_step (by omega) hc0, by rw [pc, txt_step (by omega) hc0]; exact txt_len (by omega) hc0 (hlk (by omega)) (pc ▸ pd)⟩, by kernel_rfl, hp51⟩
    · refine WP.exit ?_
      refine thn_x ?_
      refine thn_x ?_
      refine blk_hit ?_
      refine thn_n ?_
      refine WP.seq ?_
      refine WP.region _ rfl (by kernel_rfl) ?_
      have hp57 := hp13.pull0
      refine OPS.cons (opStep.call (some 30) [.pointer (some ⟨g7, 0, none⟩)] (by kernel_rfl) (bst_c hp57) ?_)
      rintro _ w58 ⟨rfl, hf59⟩
      refine ⟨_, rfl, ?_⟩
      have hp60 := Hp.ofFr hf59
      refine OPS.batch 2 {} [] [2, 3] [.string ⟨tx.toArray⟩, .int .i64 0] .nil (by kernel_rfl) (fun b61 => ?_)
      refine OPS.nil ?_
      refine thn_n ?_
      refine WP.ret ?_
      refine bodyQ.of _ rfl [.string ⟨tx.toArray⟩, .int .i64 0] ⟨rfl, rfl, trivial⟩ ?_
      have hk : k = xs.length := by omega
      rw [hk, List.take_of_length_le (Nat.le_refl _)] at pc
      exact ⟨_, _, rfl, .inr (.inr ⟨by omega, rfl, by rw [pc]; rfl, fun x hx => by obtain ⟨i, hi⟩ := List.getElem?_of_mem hx; have hil := (List.getElem?_eq_some_iff.1 hi).1; have h_ := pb2 i (by omega); rw [getElem!_pos xs i hil, (List.getElem?_eq_some_iff.1 hi).2] at h_; exact chk_ok h_⟩), hp60.fr⟩

def PsI (s : ByteArray) (xs : List StepP) (k : Nat) : Prop := xs.map lineS = (linesB s).take k ∧ ∀ x ∈ xs, okS x ∧ inS x
theorem prs_step {s : ByteArray} {xs : List StepP} {k : Nat} {x : StepP} (hk : k < (linesB s).length) (h : PsI s xs k) (hx : okS x ∧ inS x ∧ lineS x = (linesB s)[k]!) : PsI s (xs ++ [x]) (k + 1) := by
  refine ⟨?_, fun y hy => ?_⟩
  · rw [List.map_append, h.1, List.take_succ_eq_append_getElem hk, List.map_cons, List.map_nil, hx.2.2, getElem!_pos _ k hk]
  · rcases List.mem_append.1 hy with hy | hy
    · exact h.2 y hy
    · rw [List.mem_singleton] at hy; subst hy; exact ⟨hx.1, hx.2.1⟩
theorem ps_lines {s : ByteArray} {xs : List StepP} {k i : Nat} (h : PsI s xs k) (hk : k ≤ (linesB s).length) (hi : i < k) : isL (linesB s)[i]! := by
  have hl : xs.length = k := by have := congrArg List.length h.1; rw [List.length_map, List.length_take] at this; omega
  have he : (xs.map lineS)[i]? = ((linesB s).take k)[i]? := by rw [h.1]
  rw [List.getElem?_take_of_lt hi, List.getElem?_map, List.getElem?_eq_getElem (by omega : i < xs.length), List.getElem?_eq_getElem (by omega : i < (linesB s).length)] at he
  have hm := h.2 xs[i] (List.getElem_mem _)
  rw [getElem!_pos _ i (by omega)]
  exact ⟨xs[i], hm.1, hm.2, Option.some.inj he⟩
theorem sc_Parse (s : ByteArray) (hs : s.size ≤ 8796093022200) (hlz : ∀ x ∈ linesB s, x.size ≤ 4294967280) (w : World) (hls : LibS w) :
    Calls Tryd.prog 9 #[.string s] w (fun r_ w' => ∃ a nn c cl F xs m e, r_ = .returned (.tuple #[.slice a nn c, .int .i64 m, .int .i64 e]) ∧ PrsR s xs m e ∧ Hp w Non [Res.own 31 6 (.slice a nn c) nn (cl.flatMap GStep.cells), Res.sv F cl xs] w') := by
  refine calls_of Tryd.func9 rfl 37 rfl (by simp) ?_
  have hp0 := Hp.init w
  have he0 : List.map (env0 [.string s]) [0] = [.string s] := by kernel_rfl
  obtain ⟨b0, he0⟩ := toMk he0
  rw [he0]
  clear he0
  refine WP.seq ?_
  refine WP.pure {} [] [0] [.string s] .nil (by kernel_rfl) (fun b1 => ?_)
  refine thn_n ?_
  refine WP.seq ?_
  refine WP.region _ rfl (by kernel_rfl) ?_
  refine OPS.batch 1 {} [] [11] [.string s] .nil (by kernel_rfl) (fun b2 => ?_)
  refine OPS.cons (opStep.call (some 12) [.string s] (by kernel_rfl) (sc_lines s (by omega) _) ?_)
  rintro _ w5 ⟨a7, n8, c9, rfl, hp6⟩
  refine ⟨_, rfl, ?_⟩
  have hal := own_flat (f := strc) (sz := 1) (fun _ => rfl) (by decide) hp6.get0
  have hp10 := hp0.madeQ hp6
  simp only [List.cons_append, List.nil_append] at hp10
  refine OPS.batch 1 {} [] [5] [.slice a7 n8 c9] .nil (by kernel_rfl) (fun b11 => ?_)
  refine OPS.nil ?_
  refine thn_n ?_
  refine WP.seq ?_
  refine WP.seq ?_
  refine WP.pure {} [] [5, 15] [.slice a7 n8 c9, .bool (decide (4096 < ((n8 : Nat) : Int)))] .nil (by kernel_rfl) (fun b12 => ?_)
  refine thn_n ?_
  refine WP.test (p := 4096 < ((n8 : Nat) : Int)) rfl Bp.dec (fun h13 => ?_) (fun h13 => ?_)
  · refine WP.seq ?_
    refine WP.pure {} [] [2, 3, 4] [.slice none 0 0, .int .i64 0, .int .i64 2] .nil (by kernel_rfl) (fun b14 => ?_)
    refine thn_n ?_
    refine WP.ret ?_
    refine thn_r ?_
    refine bodyQ.of _ rfl [.slice none 0 0, .int .i64 0, .int .i64 2] ⟨rfl, rfl, rfl, trivial⟩ ?_
    exact ⟨none, 0, 0, [], fun _ => False, [], _, _, rfl, .inl ⟨by have h_ := h13; omega, rfl, rfl, rfl⟩, ((hp10.nil.svNil).nilOwn 31 6)⟩
  · refine WP.skip ?_
    refine thn_n ?_
    refine WP.seq ?_
    refine WP.pure {} [] [5, 6] [.slice a7 n8 c9, .slice none 0 0] .nil (by kernel_rfl) (fun b15 => ?_)
    refine thn_n ?_
    refine WP.seq ?_
    refine WP.seq ?_
    refine WP.pure {} [] [6, 16, 17, 18] [.slice none 0 0, .slice a7 n8 c9, .int .i64 ((n8 : Nat) : Int), .int .i64 0] .nil (by kernel_rfl) (fun b16 => ?_)
    refine thn_n ?_
    refine WP.block ?_
    have hp18 := hp10.svNil
    have hp17 := (show Hp w Non [Res.own 31 6 (.slice none 0 0) 0 (List.flatMap GStep.cells ([] : List GStep)), Res.sv (fun _ => False) [] [], Res.own 9 1 (.slice a7 n8 c9) n8 (List.flatMap strc (linesB s))] w5 from hp18.nilOwn 31 6)
    refine WP.loop (fun mz_ e19 w20 => ∃ (k : Nat) (F : Nat → Prop) (cl : List GStep) (xs : List StepP) (ao : Option Addr) (no : Nat) (co : Nat), mz_ = (linesB s).length - k ∧ (k ≤ (linesB s).length ∧ (cl.length = k ∧ xs.length = k) ∧ PsI s xs k) ∧ List.map e19 [6, 16, 17, 18] = [.slice ao no co, .slice a7 n8 c9, .int .i64 ((n8 : Nat) : Int), .int .i64 (k : Int)] ∧ Hp w Non [Res.own 31 6 (.slice ao no co) no (List.flatMap GStep.cells cl), Res.sv F cl xs, Res.own 9 1 (.slice a7 n8 c9) n8 (List.flatMap strc (linesB s))] w20) ((linesB s).length - (0)) ⟨0, (fun _ => False), [], [], none, 0, 0, rfl, ⟨Nat.zero_le _, ⟨rfl, rfl⟩, ⟨by simp, fun x hx => by cases hx⟩⟩, by kernel_rfl, hp17⟩ ?_
    rintro _ e19 w20 ⟨k, F, cl, xs, ao, no, co, rfl, hI22, hE23, hp21⟩
    obtain ⟨b24, rfl⟩ := toMk hE23
    clear hE23
    obtain ⟨pa, pb, pc⟩ := hI22
    have pe := own_flat (f := GStep.cells) (sz := 6) (fun _ => rfl) (by decide) hp21.get0
    refine WP.seq ?_
    refine WP.pure {} [] [6, 16, 17, 18, 19] [.slice ao no co, .slice a7 n8 c9, .int .i64 ((n8 : Nat) : Int), .int .i64 (k : Int), .bool (decide ((k : Int) < ((n8 : Nat) : Int)))] .nil (by kernel_rfl) (fun b25 => ?_)
    refine thn_n ?_
    refine WP.seq ?_
    refine WP.test (p := (k : Int) < ((n8 : Nat) : Int)) rfl Bp.dec (fun h26 => ?_) (fun h26 => ?_)
    · refine WP.skip ?_
      refine thn_n ?_
      refine WP.seq ?_
      refine WP.block ?_
      refine WP.seq ?_
      have := own_flat (sz := 1) (fun _ => rfl) (by decide) hp21.get2
      have hy28 : ((linesB s))[k]? = some (linesB s)[k]! := get_bang (by first | (omega) | (simp only [List.length_append, List.length_cons, List.length_nil]; omega) | (simp only [List.length_take, List.length_append, List.length_cons, List.length_nil]; omega))
      refine WP.pure {} [.string ((linesB s)[k]!)] [6, 7, 8, 16, 17, 18] [.slice ao no co, .int .i64 (k : Int), .string ((linesB s)[k]!), .slice a7 n8 c9, .int .i64 ((n8 : Nat) : Int), .int .i64 (k : Int)] (.cons (show InB ((k : Int)) (n8) from ⟨by omega, by omega⟩) (.cons ((SlR.own (hp21.get2)).some (by omega)) (.cons (Ld.add0 (Ld.el1 (P := Tryd.prog) (t := 9) (SlR.own (hp21.get2)).rd 1 (fun _ => rfl) hy28 (o := 0) (v := .string ((linesB s)[k]!)) (by kernel_rfl))) .nil))) (by kernel_rfl) (fun b29 => ?_)
      refine thn_n ?_
      refine WP.seq ?_
      refine WP.region _ rfl (by kernel_rfl) ?_
      refine OPS.batch 1 {} [] [6, 7, 16, 17, 18, 24] [.slice ao no co, .int .i64 (k : Int), .slice a7 n8 c9, .int .i64 ((n8 : Nat) : Int), .int .i64 (k : Int), .string ((linesB s)[k]!)] .nil (by kernel_rfl) (fun b30 => ?_)
      refine OPS.cons (opStep.call (some 25) [.string ((linesB s)[k]!)] (by kernel_rfl) (sc_step ((linesB s)[k]!) (hlz _ (List.mem_of_getElem? (get_bang (by omega)))) _ (hls.fram hp21.fr)) ?_)
      rintro _ w33 ⟨s35, x36, ok37, F38, rfl, hq39, hp34⟩
      refine ⟨_, rfl, ?_⟩
      have hp40 := hp21.madeQ hp34
      simp only [List.cons_append, List.nil_append] at hp40
      cases ok37 with
      | false =>
        refine OPS.batch 3 {} [] [6, 7, 16, 17, 18, 26, 27] [.slice ao no co, .int .i64 (k : Int), .slice a7 n8 c9, .int .i64 ((n8 : Nat) : Int), .int .i64 (k : Int), GStep.val s35, .bool false] .nil (by kernel_rfl) (fun b41 => ?_)
        refine OPS.cons (opStep.alloc hp40 [.int .i64 0, .int .i64 0, .int .i64 0, .string ByteArray.empty, .slice none 0 0, .slice none 0 0] (by kernel_rfl) (fun g44 w42 hp43 => ?_))
        refine OPS.cons (opStep.store0 hp43 rfl [.int .i64 s35.Kind, .int .i64 s35.A, .int .i64 s35.B, .string s35.Key, .slice s35.Value.a s35.Value.n s35.Value.c, .slice s35.L.a s35.L.n s35.L.c] [.int .i64 s35.Kind, .int .i64 s35.A, .int .i64 s35.B, .string s35.Key, .slice s35.Value.a s35.Value.n s35.Value.c, .slice s35.L.a s35.L.n s35.L.c] (by kernel_rfl) (fun w45 hp46 => ?_))
        refine OPS.batch 1 {} [] [6, 7, 9, 10, 16, 17, 18] [.slice ao no co, .int .i64 (k : Int), .pointer (some ⟨g44, 0, none⟩), .bool false, .slice a7 n8 c9, .int .i64 ((n8 : Nat) : Int), .int .i64 (k : Int)] .nil (by kernel_rfl) (fun b47 => ?_)
        refine OPS.nil ?_
        refine thn_n ?_
        refine WP.seq ?_
        refine WP.seq ?_
        refine WP.pure {} [] [6, 7, 9, 16, 17, 18, 29] [.slice ao no co, .int .i64 (k : Int), .pointer (some ⟨g44, 0, none⟩), .slice a7 n8 c9, .int .i64 ((n8 : Nat) : Int), .int .i64 (k : Int), .bool true] .nil (by kernel_rfl) (fun b48 => ?_)
        refine thn_n ?_
        refine WP.condT rfl ?_
        refine WP.seq ?_
        refine WP.pure {} [] [2, 3, 4] [.slice none 0 0, .int .i64 (k : Int), .int .i64 82] .nil (by kernel_rfl) (fun b49 => ?_)
        refine thn_n ?_
        refine WP.ret ?_
        refine thn_r ?_
        refine blk_r ?_
        refine thn_r ?_
        refine thn_r ?_
        refine blk_r ?_
        refine thn_r ?_
        refine bodyQ.of _ rfl [.slice none 0 0, .int .i64 (k : Int), .int .i64 82] ⟨rfl, rfl, rfl, trivial⟩ ?_
        exact ⟨none, 0, 0, [], fun _ => False, [], _, _, rfl, .inr (.inl ⟨by omega, rfl, rfl, k, by omega, rfl, hq39.2 rfl, fun i hi => ps_lines pc (by omega) hi⟩), ((hp46.nil.svNil).nilOwn 31 6)⟩
      | true =>
        refine OPS.batch 3 {} [] [6, 7, 16, 17, 18, 26, 27] [.slice ao no co, .int .i64 (k : Int), .slice a7 n8 c9, .int .i64 ((n8 : Nat) : Int), .int .i64 (k : Int), GStep.val s35, .bool true] .nil (by kernel_rfl) (fun b50 => ?_)
        refine OPS.cons (opStep.alloc hp40 [.int .i64 0, .int .i64 0, .int .i64 0, .string ByteArray.empty, .slice none 0 0, .slice none 0 0] (by kernel_rfl) (fun g53 w51 hp52 => ?_))
        refine OPS.cons (opStep.store0 hp52 rfl [.int .i64 s35.Kind, .int .i64 s35.A, .int .i64 s35.B, .string s35.Key, .slice s35.Value.a s35.Value.n s35.Value.c, .slice s35.L.a s35.L.n s35.L.c] [.int .i64 s35.Kind, .int .i64 s35.A, .int .i64 s35.B, .string s35.Key, .slice s35.Value.a s35.Value.n s35.Value.c, .slice s35.L.a s35.L.n s35.L.c] (by kernel_rfl) (fun w54 hp55 => ?_))
        refine OPS.batch 1 {} [] [6, 7, 9, 10, 16, 17, 18] [.slice ao no co, .int .i64 (k : Int), .pointer (some ⟨g53, 0, none⟩), .bool true, .slice a7 n8 c9, .int .i64 ((n8 : Nat) : Int), .int .i64 (k : Int)] .nil (by kernel_rfl) (fun b56 => ?_)
        refine OPS.nil ?_
        refine thn_n ?_
        refine WP.seq ?_
        refine WP.seq ?_
        refine WP.pure {} [] [6, 7, 9, 16, 17, 18, 29] [.slice ao no co, .int .i64 (k : Int), .pointer (some ⟨g53, 0, none⟩), .slice a7 n8 c9, .int .i64 ((n8 : Nat) : Int), .int .i64 (k : Int), .bool false] .nil (by kernel_rfl) (fun b57 => ?_)
        refine thn_n ?_
        refine WP.condF rfl ?_
        refine WP.skip ?_
        refine thn_n ?_
        refine WP.region _ rfl (by kernel_rfl) ?_
        refine OPS.batch 2 {} [GStep.val s35] [16, 17, 18, 31, 32] [.slice a7 n8 c9, .int .i64 ((n8 : Nat) : Int), .int .i64 (k : Int), .slice ao no co, GStep.val s35] (.cons (show Ld Tryd.prog w54 31 ⟨g53, 0, none⟩ (GStep.val s35) from Ld.rowN (cs := [.int .i64 s35.Kind, .int .i64 s35.A, .int .i64 s35.B, .string s35.Key, .slice s35.Value.a s35.Value.n s35.Value.c, .slice s35.L.a s35.L.n s35.L.c]) hp55.get0 (by kernel_rfl)) .nil) (by kernel_rfl) (fun b58 => ?_)
        refine OPS.cons (opStep.buildSlice (E := 31) hp55 [.int .i64 s35.Kind, .int .i64 s35.A, .int .i64 s35.B, .string s35.Key, .slice s35.Value.a s35.Value.n s35.Value.c, .slice s35.L.a s35.L.n s35.L.c] (by kernel_rfl) (fun g61 w59 hp60 => ?_))
        refine OPS.cons (opStep.append3 [.int .i64 s35.Kind, .int .i64 s35.A, .int .i64 s35.B, .string s35.Key, .slice s35.Value.a s35.Value.n s35.Value.c, .slice s35.L.a s35.L.n s35.L.c] hp60 88 (by kernel_rfl) rfl rfl rfl (SlR.row (n := 1) hp60.get0 rfl).rd (List.all_eq_true.1 (by kernel_rfl)) (by decide) (by omega) (by omega) (fun a64 c65 w66 hp67 hn68 => ?_))
        rw [(show List.flatMap GStep.cells cl ++ [.int .i64 s35.Kind, .int .i64 s35.A, .int .i64 s35.B, .string s35.Key, .slice s35.Value.a s35.Value.n s35.Value.c, .slice s35.L.a s35.L.n s35.L.c] = List.flatMap GStep.cells (cl ++ [s35]) from (List.flatMap_append (xs := cl) (ys := [s35])).symm)] at hp67
        refine OPS.batch 1 {} [] [6, 16, 17, 18] [.slice a64 (no + 1) c65, .slice a7 n8 c9, .int .i64 ((n8 : Nat) : Int), .int .i64 (k : Int)] .nil (by kernel_rfl) (fun b69 => ?_)
        refine OPS.nil ?_
        refine blk_n ?_
        refine thn_n ?_
        refine WP.pure {} [] [6, 16, 17, 18] [.slice a64 (no + 1) c65, .slice a7 n8 c9, .int .i64 ((n8 : Nat) : Int), .int .i64 ((k : Int) + 1)] (.cons (show Rng .i64 ((k : Int) + 1) from Rng.i64 (by omega)) .nil) (by kernel_rfl) (fun b70 => ?_)
        refine thn_n ?_
        have hp71 := hp67.pull2
        have hp72 := hp71.pull4
        have hp73 := hp72.pull1
        have hp74 := hp73.svPush
        exact ⟨(linesB s).length - (k + 1), (by omega), k + 1, fun k => F k ∨ F38 k, cl ++ [s35], xs ++ [x36], a64, no + 1, c65, rfl, ⟨by omega, by rw [List.length_append, List.length_append]; simp only [List.length_singleton]; omega, prs_step (by omega) pc (hq39.1 rfl)⟩, by kernel_rfl, ((((hp74.pull4).pull1).pull4).sub (.cons_cons _ (.cons_cons _ (.cons_cons _ (.cons _ (.cons _ (.slnil)))))))⟩
    · refine WP.exit ?_
      refine thn_x ?_
      refine thn_x ?_
      refine blk_hit ?_
      refine thn_n ?_
      refine WP.seq ?_
      refine WP.pure {} [] [2, 3, 4] [.slice ao no co, .int .i64 0, .int .i64 0] .nil (by kernel_rfl) (fun b75 => ?_)
      refine thn_n ?_
      refine WP.ret ?_
      refine bodyQ.of _ rfl [.slice ao no co, .int .i64 0, .int .i64 0] ⟨rfl, rfl, rfl, trivial⟩ ?_
      obtain rfl : k = (linesB s).length := by omega
      exact ⟨_, _, _, _, _, _, _, _, rfl, .inr (.inr ⟨by omega, rfl, rfl, by rw [pc.1, List.take_of_length_le (Nat.le_refl _)], pc.2⟩), (hp21.sub (.cons_cons _ (.cons_cons _ (.cons _ (.slnil)))))⟩

end Go.Proofs.YtbpedjefoajegaaDoor.K
