/- Texts of this claim, merged: what the program's functions compute, and the rules that the walks use. -/
import Derived.Test.YtbpedjefoajegaaDoorProg
import Derived.Test.YtbpedjefoajegaaDoorZ1
import Derived.Test.YtbpedjefoajegaaDoorZ2
namespace Go.Proofs.YtbpedjefoajegaaDoor.K
open Go Go.Proofs Go.RowKit
set_option linter.unusedVariables false
set_option linter.unusedSimpArgs false
set_option maxRecDepth 20000
set_option maxHeartbeats 4000000
noncomputable abbrev qj0 := fun a0 => ([.int .u8 (IntKind.u8.wrap (a0 : Int))] : List Go.Value)

theorem al_alone (cl : List GStep) (ps0 : List AI) (a : Option Addr) (n c : Nat) (w0 w : World) (L : List Res) (hn : cl.length ≤ 1048576) (hps : Al0 cl ps0) (hcl : ∀ i, i < cl.length → cl[i]!.Value.n ≤ 1099511627776 ∧ cl[i]!.L.n ≤ 1099511627776) (hp0 : Hp w0 Non (Res.ow2 31 6 (.slice a n c) n (cl.flatMap GStep.cells) :: Res.als ps0 :: L) w) :
  Calls Tryd.prog 18 #[.slice a n c] w (fun r_ w' => r_ = .returned (.bool true) ∧ Hp w0 Non L w') := by
 refine calls_of Tryd.func18 rfl 141 rfl (by simp) ?_
 have he0 : List.map (env0 [.slice a n c]) [0] = [.slice a n c] := by kernel_rfl
 obtain ⟨b0, he0⟩ := toMk he0
 rw [he0]
 clear he0
 refine WP.seq (wP [0] [.slice a n c] fun b1 => ?_)
 refine thn_n (WP.seq (wP [0, 3] [.slice a n c, nS] fun b2 => ?_))
 refine thn_n (WP.seq (wP [0, 3, 4] [.slice a n c, nS, nS] fun b3 => ?_))
 refine thn_n (WP.seq (WP.seq (wP [0, 3, 4, 5] [.slice a n c, nS, nS, iI 0] fun b4 => ?_)))
 refine thn_n (WP.block ?_)
 refine WP.loop (fun mz_ e5 w6 => ∃ (k : Nat) (ps : List AI), mz_ = n - k ∧ (k ≤ n ∧ Al0 cl ps ∧ AlD ps k) ∧ List.map e5 [0, 3, 4, 5] = [.slice a n c, nS, nS, iI (k : Int)] ∧ Hp w0 Non (Res.ow2 31 6 (.slice a n c) n (List.flatMap GStep.cells cl) :: Res.als ps :: L) w6) (n - (0)) ⟨0, ps0, rfl, ⟨Nat.zero_le _, hps, fun i hi => absurd hi (Nat.not_lt_zero _)⟩, by kernel_rfl, hp0⟩ ?_
 rintro _ e5 w6 ⟨k, ps, rfl, hI8, hE9, hp7⟩
 obtain ⟨b10, rfl⟩ := toMk hE9
 clear hE9
 obtain ⟨pa, pb, pc⟩ := hI8
 have pe := ow2_flat (f := GStep.cells) (sz := 6) (fun _ => rfl) (by decide) hp7.get0
 have pl := pb.len
 refine WP.seq (WP.seq (wP [0, 3, 4, 5, 18] [.slice a n c, nS, nS, iI (k : Int), .bool (decide ((k : Int) < ((n : Nat) : Int)))] fun b11 => ?_))
 refine thn_n ?_
 refine WP.test (p := (k : Int) < ((n : Nat) : Int)) rfl Bp.dec (fun h12 => ?_) (fun h12 => ?_)
 ·refine WP.skip (thn_n (WP.seq (WP.block (WP.seq (WP.seq ?_)))))
  have hp13 := hp7.pull1
  obtain ⟨vx14, lx15, hpe16⟩ := pb.pop (k := k) (by omega)
  have hp17 := (show Hp w0 Non (Res.ow2 5 1 (.slice (cl[k]!.Value.a) (cl[k]!.Value.n) (cl[k]!.Value.c)) (cl[k]!.Value.n) (List.flatMap u8c vx14) :: Res.ow2 3 1 (.slice (cl[k]!.L.a) (cl[k]!.L.n) (cl[k]!.L.c)) (cl[k]!.L.n) (List.flatMap i64c lx15) :: Res.als (ps.eraseIdx k) :: Res.ow2 31 6 (.slice a n c) n (List.flatMap GStep.cells cl) :: L) w6 from hp13.alsPop (by omega) hpe16)
  have hz := hcl k (by omega)
  refine wP [0, 3, 4, 5, 6] [.slice a n c, nS, nS, iI (k : Int), iI 0] fun b18 => ?_
  refine thn_n (WP.block ?_)
  refine WP.loop (fun mz_ e19 w20 => ∃ (j : Nat) (vz : List Int), mz_ = cl[k]!.Value.n - j ∧ (j ≤ cl[k]!.Value.n ∧ ∀ q, q < j → vz[q]! = bI k) ∧ List.map e19 [0, 3, 4, 5, 6] = [.slice a n c, nS, nS, iI (k : Int), iI (j : Int)] ∧ Hp w0 Non (Res.ow2 5 1 (.slice (cl[k]!.Value.a) (cl[k]!.Value.n) (cl[k]!.Value.c)) (cl[k]!.Value.n) (List.flatMap u8c vz) :: Res.ow2 3 1 (.slice (cl[k]!.L.a) (cl[k]!.L.n) (cl[k]!.L.c)) (cl[k]!.L.n) (List.flatMap i64c lx15) :: Res.als (ps.eraseIdx k) :: Res.ow2 31 6 (.slice a n c) n (List.flatMap GStep.cells cl) :: L) w20) (cl[k]!.Value.n - (0)) ⟨0, vx14, rfl, ⟨Nat.zero_le _, fun q hq => absurd hq (Nat.not_lt_zero _)⟩, by kernel_rfl, hp17⟩ ?_
  rintro _ e19 w20 ⟨j, vz, rfl, hI22, hE23, hp21⟩
  obtain ⟨b24, rfl⟩ := toMk hE23
  clear hE23
  obtain ⟨qa, qb⟩ := hI22
  have qe := ow2_flat (f := u8c) (sz := 1) (fun _ => rfl) (by decide) hp21.get0
  refine WP.seq (WP.seq ?_)
  have := ow2_flat (sz := 6) (fun _ => rfl) (by decide) hp21.get3
  have hy26 : (cl)[k]? = some cl[k]! := get_bang (by first | (omega) | (simp only [List.length_append, List.length_cons, List.length_nil]; omega) | (simp only [List.length_take, List.length_append, List.length_cons, List.length_nil]; omega))
  refine wQ {} [.slice (cl[k]!.Value.a) (cl[k]!.Value.n) (cl[k]!.Value.c)] [0, 3, 4, 5, 6, 28] [.slice a n c, nS, nS, iI (k : Int), iI (j : Int), .bool (decide ((j : Int) < ((cl[k]!.Value.n : Nat) : Int)))] (.cons (show InB ((k : Int)) (n) from ⟨by omega, by omega⟩) (.cons ((SlR.ow2 (hp21.get3)).some (by omega)) (.cons (Ld.el1 (P := Tryd.prog) (t := 28) (SlR.ow2 (hp21.get3)).rd 6 (fun _ => rfl) hy26 (o := 4) (v := .slice (cl[k]!.Value.a) (cl[k]!.Value.n) (cl[k]!.Value.c)) (by kernel_rfl)) .nil))) fun b27 => ?_
  refine thn_n ?_
  refine WP.test (p := (j : Int) < ((cl[k]!.Value.n : Nat) : Int)) rfl Bp.dec (fun h28 => ?_) (fun h28 => ?_)
  ·refine WP.skip (thn_n (WP.seq (WP.block (wR (oQ 9 { wraps := [38] } [.slice (cl[k]!.Value.a) (cl[k]!.Value.n) (cl[k]!.Value.c)] [0, 3, 4, 5, 6, 38, 39] [.slice a n c, nS, nS, iI (k : Int), iI (j : Int), .int .u8 (IntKind.u8.wrap (k : Int)), .pointer (some ((adr (cl[k]!.Value.a)).add (j * 1)))] (.cons (show InB ((k : Int)) (n) from ⟨by omega, by omega⟩) (.cons ((SlR.ow2 (hp21.get3)).some (by omega)) (.cons (Ld.el1 (P := Tryd.prog) (t := 28) (SlR.ow2 (hp21.get3)).rd 6 (fun _ => rfl) hy26 (o := 4) (v := .slice (cl[k]!.Value.a) (cl[k]!.Value.n) (cl[k]!.Value.c)) (by kernel_rfl)) (.cons (show InB ((j : Int)) (cl[k]!.Value.n) from ⟨by omega, by omega⟩) (.cons ((SlR.ow2 (hp21.get0)).some (by omega)) .nil))))) fun b29 => ?_)))))
   have := ow2_flat (sz := 1) (fun _ => rfl) (by decide) hp21.get0
   try simp only [List.length_set] at this
   refine OPS.cons (opStep.storeOw20 (j * 1) hp21 rfl (qj0 k) (by kernel_rfl) (by simp) (show j * 1 + 1 ≤ (cl[k]!.Value.n) * 1 by omega) (fun w30 hp31 => ?_))
   have hp32 := hp31
   rw [show ow (List.flatMap u8c vz) (j * 1) [.int .u8 (IntKind.u8.wrap (k : Int))] = List.flatMap u8c (vz.set j (IntKind.u8.wrap (k : Int))) from ow_flat (sz := 1) (fun _ => rfl) (by first | (omega) | (simp only [List.length_set]; omega)) (IntKind.u8.wrap (k : Int))] at hp32
   refine OPS.nil (blk_n (thn_n (wQ {} [] [0, 3, 4, 5, 6] [.slice a n c, nS, nS, iI (k : Int), iI ((j : Int) + 1)] (.cons (show Rng .i64 ((j : Int) + 1) from Rng.i64 (by omega)) .nil) fun b33 => ?_)))
   refine thn_n ?_
   exact ⟨cl[k]!.Value.n - (j + 1), (by omega), j + 1, vz.set j (IntKind.u8.wrap (k : Int)), rfl, ⟨by omega, al_put qb (by omega)⟩, by kernel_rfl, hp32⟩
  ·refine WP.exit (thn_x (thn_x (blk_hit (thn_n (WP.seq ?_)))))
   have hvz := al_all qb (by omega)
   refine wP [0, 3, 4, 5, 7] [.slice a n c, nS, nS, iI (k : Int), iI 0] fun b34 => ?_
   refine thn_n (WP.block ?_)
   refine WP.loop (fun mz_ e35 w36 => ∃ (j2 : Nat) (lz : List Int), mz_ = cl[k]!.L.n - j2 ∧ (j2 ≤ cl[k]!.L.n ∧ ∀ q, q < j2 → lz[q]! = mI k) ∧ List.map e35 [0, 3, 4, 5, 7] = [.slice a n c, nS, nS, iI (k : Int), iI (j2 : Int)] ∧ Hp w0 Non (Res.ow2 5 1 (.slice (cl[k]!.Value.a) (cl[k]!.Value.n) (cl[k]!.Value.c)) (cl[k]!.Value.n) (List.flatMap u8c vz) :: Res.ow2 3 1 (.slice (cl[k]!.L.a) (cl[k]!.L.n) (cl[k]!.L.c)) (cl[k]!.L.n) (List.flatMap i64c lz) :: Res.als (ps.eraseIdx k) :: Res.ow2 31 6 (.slice a n c) n (List.flatMap GStep.cells cl) :: L) w36) (cl[k]!.L.n - (0)) ⟨0, lx15, rfl, ⟨Nat.zero_le _, fun q hq => absurd hq (Nat.not_lt_zero _)⟩, by kernel_rfl, hp21⟩ ?_
   rintro _ e35 w36 ⟨j2, lz, rfl, hI38, hE39, hp37⟩
   obtain ⟨b40, rfl⟩ := toMk hE39
   clear hE39
   obtain ⟨ra, rb⟩ := hI38
   have re := ow2_flat (f := i64c) (sz := 1) (fun _ => rfl) (by decide) hp37.get1
   refine WP.seq (WP.seq ?_)
   have := ow2_flat (sz := 6) (fun _ => rfl) (by decide) hp37.get3
   have hy42 : (cl)[k]? = some cl[k]! := get_bang (by first | (omega) | (simp only [List.length_append, List.length_cons, List.length_nil]; omega) | (simp only [List.length_take, List.length_append, List.length_cons, List.length_nil]; omega))
   refine wQ {} [.slice (cl[k]!.L.a) (cl[k]!.L.n) (cl[k]!.L.c)] [0, 3, 4, 5, 7, 47] [.slice a n c, nS, nS, iI (k : Int), iI (j2 : Int), .bool (decide ((j2 : Int) < ((cl[k]!.L.n : Nat) : Int)))] (.cons (show InB ((k : Int)) (n) from ⟨by omega, by omega⟩) (.cons ((SlR.ow2 (hp37.get3)).some (by omega)) (.cons (Ld.el1 (P := Tryd.prog) (t := 29) (SlR.ow2 (hp37.get3)).rd 6 (fun _ => rfl) hy42 (o := 5) (v := .slice (cl[k]!.L.a) (cl[k]!.L.n) (cl[k]!.L.c)) (by kernel_rfl)) .nil))) fun b43 => ?_
   refine thn_n ?_
   refine WP.test (p := (j2 : Int) < ((cl[k]!.L.n : Nat) : Int)) rfl Bp.dec (fun h44 => ?_) (fun h44 => ?_)
   ·refine WP.skip (thn_n (WP.seq (WP.block (wR (oQ 9 {} [.slice (cl[k]!.L.a) (cl[k]!.L.n) (cl[k]!.L.c)] [0, 3, 4, 5, 7, 57, 58] [.slice a n c, nS, nS, iI (k : Int), iI (j2 : Int), iI ((-100) - (k : Int)), .pointer (some ((adr (cl[k]!.L.a)).add (j2 * 1)))] (.cons (show InB ((k : Int)) (n) from ⟨by omega, by omega⟩) (.cons ((SlR.ow2 (hp37.get3)).some (by omega)) (.cons (Ld.el1 (P := Tryd.prog) (t := 29) (SlR.ow2 (hp37.get3)).rd 6 (fun _ => rfl) hy42 (o := 5) (v := .slice (cl[k]!.L.a) (cl[k]!.L.n) (cl[k]!.L.c)) (by kernel_rfl)) (.cons (show Rng .i64 ((-100) - (k : Int)) from Rng.i64 (by omega)) (.cons (show InB ((j2 : Int)) (cl[k]!.L.n) from ⟨by omega, by omega⟩) (.cons ((SlR.ow2 (hp37.get1)).some (by omega)) .nil)))))) fun b45 => ?_)))))
    have := ow2_flat (sz := 1) (fun _ => rfl) (by decide) hp37.get1
    try simp only [List.length_set] at this
    refine OPS.cons (opStep.storeOw21 (j2 * 1) hp37 rfl [iI ((-100) - (k : Int))] (by kernel_rfl) (by simp) (show j2 * 1 + 1 ≤ (cl[k]!.L.n) * 1 by omega) (fun w46 hp47 => ?_))
    have hp48 := hp47
    rw [show ow (List.flatMap i64c lz) (j2 * 1) [iI ((-100) - (k : Int))] = List.flatMap i64c (lz.set j2 ((-100) - (k : Int))) from ow_flat (sz := 1) (fun _ => rfl) (by first | (omega) | (simp only [List.length_set]; omega)) ((-100) - (k : Int))] at hp48
    refine OPS.nil (blk_n (thn_n (wQ {} [] [0, 3, 4, 5, 7] [.slice a n c, nS, nS, iI (k : Int), iI ((j2 : Int) + 1)] (.cons (show Rng .i64 ((j2 : Int) + 1) from Rng.i64 (by omega)) .nil) fun b49 => ?_)))
    refine thn_n ?_
    exact ⟨cl[k]!.L.n - (j2 + 1), (by omega), j2 + 1, lz.set j2 ((-100) - (k : Int)), rfl, ⟨by omega, al_put rb (by omega)⟩, by kernel_rfl, hp48⟩
   ·refine WP.exit (thn_x (thn_x (blk_hit (blk_n (thn_n (wQ {} [] [0, 3, 4, 5] [.slice a n c, nS, nS, iI ((k : Int) + 1)] (.cons (show Rng .i64 ((k : Int) + 1) from Rng.i64 (by omega)) .nil) fun b50 => ?_))))))
    refine thn_n ?_
    have hlz := al_all rb (by omega)
    have hp51 := hp37.pull2
    have hp52 := hp51.pull2
    have hp53 := hp52.pull2
    have hp54 := Hp.alsPut (ps := ps) (i := k) (p := ⟨cl[k]!.Value, vz, cl[k]!.L, lz⟩) hp53 (by omega)
    exact ⟨n - (k + 1), (by omega), k + 1, (ps.set k ⟨cl[k]!.Value, vz, cl[k]!.L, lz⟩), rfl, ⟨by omega, pb.set (by omega), pc.set (by omega) hvz hlz⟩, by kernel_rfl, (((hp54.pull0).pull1).sub (.cons_cons _ (.cons_cons _ (.refl _))))⟩
 ·refine WP.exit (thn_x (thn_x (blk_hit (thn_n (WP.seq (WP.seq (wP [0, 3, 4, 8] [.slice a n c, nS, nS, iI 0] fun b55 => ?_)))))))
  refine thn_n (WP.block ?_)
  have hdn : AlD ps n := by have e_ : k = n := (by omega); rw [← e_]; exact pc
  have hp56 := (show Hp w0 Non (Res.ow2 29 1 (nS) 0 (List.flatMap (fun (y : SlH) => [y.v]) ([] : List SlH)) :: Res.ow2 31 6 (.slice a n c) n (List.flatMap GStep.cells cl) :: Res.als ps :: L) w6 from hp7.nilOw2 29 1)
  have hp57 := (show Hp w0 Non (Res.ow2 28 1 (nS) 0 (List.flatMap (fun (y : SlH) => [y.v]) ([] : List SlH)) :: Res.ow2 29 1 (nS) 0 (List.flatMap (fun (y : SlH) => [y.v]) ([] : List SlH)) :: Res.ow2 31 6 (.slice a n c) n (List.flatMap GStep.cells cl) :: Res.als ps :: L) w6 from hp56.nilOw2 28 1)
  refine WP.loop (fun mz_ e58 w59 => ∃ (k2 : Nat) (ps2 : List AI) (hv : List SlH) (hl : List SlH) (va : Option Addr) (vn : Nat) (vc : Nat) (la : Option Addr) (ln : Nat) (lc : Nat), mz_ = n - k2 ∧ (k2 ≤ n ∧ Al2 cl hv hl ps2 k2 ∧ AlD ps2 n) ∧ List.map e58 [0, 3, 4, 8] = [.slice a n c, .slice va vn vc, .slice la ln lc, iI (k2 : Int)] ∧ Hp w0 Non (Res.ow2 28 1 (.slice va vn vc) vn (List.flatMap (fun (y : SlH) => [y.v]) hv) :: Res.ow2 29 1 (.slice la ln lc) ln (List.flatMap (fun (y : SlH) => [y.v]) hl) :: Res.ow2 31 6 (.slice a n c) n (List.flatMap GStep.cells cl) :: Res.als ps2 :: L) w59) (n - (0)) ⟨0, ps, [], [], none, 0, 0, none, 0, 0, rfl, ⟨Nat.zero_le _, pb.two, hdn⟩, by kernel_rfl, hp57⟩ ?_
  rintro _ e58 w59 ⟨k2, ps2, hv, hl, va, vn, vc, la, ln, lc, rfl, hI61, hE62, hp60⟩
  obtain ⟨b63, rfl⟩ := toMk hE62
  clear hE62
  obtain ⟨sa, sb, sc⟩ := hI61
  have se := ow2_flat (f := (fun (y : SlH) => [y.v])) (sz := 1) (fun _ => rfl) (by decide) hp60.get0
  have sf := ow2_flat (f := (fun (y : SlH) => [y.v])) (sz := 1) (fun _ => rfl) (by decide) hp60.get1
  have sl := sb.len
  have snv := sb.nv
  have snl := sb.nl
  refine WP.seq (WP.seq (wP [0, 3, 4, 8, 62] [.slice a n c, .slice va vn vc, .slice la ln lc, iI (k2 : Int), .bool (decide ((k2 : Int) < ((n : Nat) : Int)))] fun b64 => ?_))
  refine thn_n ?_
  refine WP.test (p := (k2 : Int) < ((n : Nat) : Int)) rfl Bp.dec (fun h65 => ?_) (fun h65 => ?_)
  ·refine WP.skip (thn_n (WP.seq (WP.block (WP.seq ?_))))
   have hp66 := hp60.pull3
   obtain ⟨vx67, lx68, hpe69⟩ := sb.pop (k := k2) (by omega)
   have hp70 := (show Hp w0 Non (Res.ow2 5 1 (.slice (cl[k2]!.Value.a) (cl[k2]!.Value.n) (cl[k2]!.Value.c)) (cl[k2]!.Value.n) (List.flatMap u8c vx67) :: Res.ow2 3 1 (.slice (cl[k2]!.L.a) (cl[k2]!.L.n) (cl[k2]!.L.c)) (cl[k2]!.L.n) (List.flatMap i64c lx68) :: Res.als (ps2.eraseIdx k2) :: Res.ow2 28 1 (.slice va vn vc) vn (List.flatMap (fun (y : SlH) => [y.v]) hv) :: Res.ow2 29 1 (.slice la ln lc) ln (List.flatMap (fun (y : SlH) => [y.v]) hl) :: Res.ow2 31 6 (.slice a n c) n (List.flatMap GStep.cells cl) :: L) w59 from hp66.alsPop (by omega) hpe69)
   have hz := hcl k2 (by omega)
   obtain ⟨hB1, hB2⟩ := sc.get (by omega) hpe69
   have := ow2_flat (sz := 6) (fun _ => rfl) (by decide) hp70.get5
   have hy72 : (cl)[k2]? = some cl[k2]! := get_bang (by first | (omega) | (simp only [List.length_append, List.length_cons, List.length_nil]; omega) | (simp only [List.length_take, List.length_append, List.length_cons, List.length_nil]; omega))
   refine wQ {} [.slice (cl[k2]!.Value.a) (cl[k2]!.Value.n) (cl[k2]!.Value.c)] [0, 3, 4, 8, 9] [.slice a n c, .slice va vn vc, .slice la ln lc, iI (k2 : Int), .slice (cl[k2]!.Value.a) (cl[k2]!.Value.n) (cl[k2]!.Value.c)] (.cons (show InB ((k2 : Int)) (n) from ⟨by omega, by omega⟩) (.cons ((SlR.ow2 (hp70.get5)).some (by omega)) (.cons (Ld.el1 (P := Tryd.prog) (t := 28) (SlR.ow2 (hp70.get5)).rd 6 (fun _ => rfl) hy72 (o := 4) (v := .slice (cl[k2]!.Value.a) (cl[k2]!.Value.n) (cl[k2]!.Value.c)) (by kernel_rfl)) .nil))) fun b73 => ?_
   refine thn_n (WP.seq (wQ {} [.slice (cl[k2]!.L.a) (cl[k2]!.L.n) (cl[k2]!.L.c)] [0, 3, 4, 8, 9, 10] [.slice a n c, .slice va vn vc, .slice la ln lc, iI (k2 : Int), .slice (cl[k2]!.Value.a) (cl[k2]!.Value.n) (cl[k2]!.Value.c), .slice (cl[k2]!.L.a) (cl[k2]!.L.n) (cl[k2]!.L.c)] (.cons (show InB ((k2 : Int)) (n) from ⟨by omega, by omega⟩) (.cons ((SlR.ow2 (hp70.get5)).some (by omega)) (.cons (Ld.el1 (P := Tryd.prog) (t := 29) (SlR.ow2 (hp70.get5)).rd 6 (fun _ => rfl) hy72 (o := 5) (v := .slice (cl[k2]!.L.a) (cl[k2]!.L.n) (cl[k2]!.L.c)) (by kernel_rfl)) .nil))) fun b74 => ?_))
   refine thn_n (WP.seq (WP.seq (wP [0, 3, 4, 8, 9, 10, 11] [.slice a n c, .slice va vn vc, .slice la ln lc, iI (k2 : Int), .slice (cl[k2]!.Value.a) (cl[k2]!.Value.n) (cl[k2]!.Value.c), .slice (cl[k2]!.L.a) (cl[k2]!.L.n) (cl[k2]!.L.c), iI 0] fun b75 => ?_)))
   refine thn_n (WP.block ?_)
   refine WP.loop (fun mz_ e76 w77 => ∃ (j4 : Nat) (xa : Option Addr) (xn : Nat) (xc : Nat) (vy : List Int) (ya : Option Addr) (yn : Nat) (yc : Nat) (ly : List Int), mz_ = 70 - j4 ∧ (j4 ≤ 70 ∧ xn = cl[k2]!.Value.n + j4 ∧ yn = cl[k2]!.L.n + j4 ∧ (∀ y ∈ vy, y = bI k2) ∧ (∀ y ∈ ly, y = mI k2)) ∧ List.map e76 [0, 3, 4, 8, 9, 10, 11] = [.slice a n c, .slice va vn vc, .slice la ln lc, iI (k2 : Int), .slice xa xn xc, .slice ya yn yc, iI (j4 : Int)] ∧ Hp w0 Non (Res.ow2 5 1 (.slice xa xn xc) xn (List.flatMap u8c vy) :: Res.ow2 3 1 (.slice ya yn yc) yn (List.flatMap i64c ly) :: Res.als (ps2.eraseIdx k2) :: Res.ow2 28 1 (.slice va vn vc) vn (List.flatMap (fun (y : SlH) => [y.v]) hv) :: Res.ow2 29 1 (.slice la ln lc) ln (List.flatMap (fun (y : SlH) => [y.v]) hl) :: Res.ow2 31 6 (.slice a n c) n (List.flatMap GStep.cells cl) :: L) w77) (70 - (0)) ⟨0, cl[k2]!.Value.a, cl[k2]!.Value.n, cl[k2]!.Value.c, vx67, cl[k2]!.L.a, cl[k2]!.L.n, cl[k2]!.L.c, lx68, rfl, ⟨by decide, rfl, rfl, hB1, hB2⟩, by kernel_rfl, hp70⟩ ?_
   rintro _ e76 w77 ⟨j4, xa, xn, xc, vy, ya, yn, yc, ly, rfl, hI79, hE80, hp78⟩
   obtain ⟨b81, rfl⟩ := toMk hE80
   clear hE80
   obtain ⟨ta, tb, tc, t1, t2⟩ := hI79
   refine WP.seq (WP.seq (wP [0, 3, 4, 8, 9, 10, 11, 76] [.slice a n c, .slice va vn vc, .slice la ln lc, iI (k2 : Int), .slice xa xn xc, .slice ya yn yc, iI (j4 : Int), .bool (decide ((j4 : Int) < 70))] fun b82 => ?_))
   refine thn_n ?_
   refine WP.test (p := (j4 : Int) < 70) rfl Bp.dec (fun h83 => ?_) (fun h83 => ?_)
   ·refine WP.skip (thn_n (WP.seq (WP.block (WP.seq (wR (oQ 3 { wraps := [81] } [] [0, 3, 4, 8, 10, 11, 79, 81] [.slice a n c, .slice va vn vc, .slice la ln lc, iI (k2 : Int), .slice ya yn yc, iI (j4 : Int), .slice xa xn xc, .int .u8 (IntKind.u8.wrap (k2 : Int))] .nil fun b84 => ?_))))))
    refine OPS.cons (opStep.buildSlice (E := 5) hp78 (qj0 k2) (by kernel_rfl) (fun g87 w85 hp86 => ?_))
    refine OPS.cons (opStep.appendM1 (qj0 k2) hp86 1 (by kernel_rfl) rfl rfl rfl (SlR.row (n := 1) hp86.get0 rfl).rd (List.all_eq_true.1 (by kernel_rfl)) (by decide) (by omega) (by omega) (fun a90 c91 w92 hp93 hn94 => ?_))
    rw [(show List.flatMap u8c vy ++ [.int .u8 (IntKind.u8.wrap (k2 : Int))] = List.flatMap u8c (vy ++ [IntKind.u8.wrap (k2 : Int)]) from (List.flatMap_append (xs := vy) (ys := [IntKind.u8.wrap (k2 : Int)])).symm)] at hp93
    refine oP 1 [0, 3, 4, 8, 9, 10, 11] [.slice a n c, .slice va vn vc, .slice la ln lc, iI (k2 : Int), .slice a90 (xn + 1) c91, .slice ya yn yc, iI (j4 : Int)] fun b95 => ?_
    refine OPS.nil (thn_n (wR (oQ 3 {} [] [0, 3, 4, 8, 9, 11, 84, 86] [.slice a n c, .slice va vn vc, .slice la ln lc, iI (k2 : Int), .slice a90 (xn + 1) c91, iI (j4 : Int), .slice ya yn yc, iI ((-100) - (k2 : Int))] (.cons (show Rng .i64 ((-100) - (k2 : Int)) from Rng.i64 (by omega)) .nil) fun b96 => ?_)))
    refine OPS.cons (opStep.buildSlice (E := 3) hp93 [iI ((-100) - (k2 : Int))] (by kernel_rfl) (fun g99 w97 hp98 => ?_))
    refine OPS.cons (opStep.appendM3 [iI ((-100) - (k2 : Int))] hp98 8 (by kernel_rfl) rfl rfl rfl (SlR.row (n := 1) hp98.get0 rfl).rd (List.all_eq_true.1 (by kernel_rfl)) (by decide) (by omega) (by omega) (fun a102 c103 w104 hp105 hn106 => ?_))
    rw [(show List.flatMap i64c ly ++ [iI ((-100) - (k2 : Int))] = List.flatMap i64c (ly ++ [(-100) - (k2 : Int)]) from (List.flatMap_append (xs := ly) (ys := [(-100) - (k2 : Int)])).symm)] at hp105
    refine oP 1 [0, 3, 4, 8, 9, 10, 11] [.slice a n c, .slice va vn vc, .slice la ln lc, iI (k2 : Int), .slice a90 (xn + 1) c91, .slice a102 (yn + 1) c103, iI (j4 : Int)] fun b107 => ?_
    refine OPS.nil (blk_n (thn_n (wQ {} [] [0, 3, 4, 8, 9, 10, 11] [.slice a n c, .slice va vn vc, .slice la ln lc, iI (k2 : Int), .slice a90 (xn + 1) c91, .slice a102 (yn + 1) c103, iI ((j4 : Int) + 1)] (.cons (show Rng .i64 ((j4 : Int) + 1) from Rng.i64 (by omega)) .nil) fun b108 => ?_)))
    refine thn_n ?_
    exact ⟨70 - (j4 + 1), (by omega), j4 + 1, a90, xn + 1, c91, vy ++ [IntKind.u8.wrap (k2 : Int)], a102, yn + 1, c103, ly ++ [(-100) - (k2 : Int)], rfl, ⟨by omega, by omega, by omega, al_app t1, al_app t2⟩, by kernel_rfl, (hp105.sub (.cons _ (.cons _ (.cons_cons _ (.cons_cons _ (.cons_cons _ (.cons_cons _ (.cons_cons _ (.cons_cons _ (.refl _))))))))))⟩
   ·refine WP.exit (thn_x (thn_x (blk_hit (thn_n (WP.seq (wR (oP 2 [0, 4, 8, 10, 89, 90] [.slice a n c, .slice la ln lc, iI (k2 : Int), .slice ya yn yc, .slice va vn vc, .slice xa xn xc] fun b109 => ?_)))))))
    refine OPS.cons (opStep.buildSlice (E := 28) hp78 [.slice xa xn xc] (by kernel_rfl) (fun g112 w110 hp111 => ?_))
    refine OPS.cons (opStep.appendM4 [.slice xa xn xc] hp111 24 (by kernel_rfl) rfl rfl rfl (SlR.row (n := 1) hp111.get0 rfl).rd (List.all_eq_true.1 (by kernel_rfl)) (by decide) (by omega) (by omega) (fun a115 c116 w117 hp118 hn119 => ?_))
    rw [(show List.flatMap (fun (y : SlH) => [y.v]) hv ++ [.slice xa xn xc] = List.flatMap (fun (y : SlH) => [y.v]) (hv ++ [(⟨xa, xn, xc⟩ : SlH)]) from (List.flatMap_append (xs := hv) (ys := [(⟨xa, xn, xc⟩ : SlH)])).symm)] at hp118
    refine oP 1 [0, 3, 4, 8, 10] [.slice a n c, .slice a115 (vn + 1) c116, .slice la ln lc, iI (k2 : Int), .slice ya yn yc] fun b120 => ?_
    refine OPS.nil (thn_n (wR (oP 2 [0, 3, 8, 93, 94] [.slice a n c, .slice a115 (vn + 1) c116, iI (k2 : Int), .slice la ln lc, .slice ya yn yc] fun b121 => ?_)))
    refine OPS.cons (opStep.buildSlice (E := 29) hp118 [.slice ya yn yc] (by kernel_rfl) (fun g124 w122 hp123 => ?_))
    refine OPS.cons (opStep.appendM6 [.slice ya yn yc] hp123 24 (by kernel_rfl) rfl rfl rfl (SlR.row (n := 1) hp123.get0 rfl).rd (List.all_eq_true.1 (by kernel_rfl)) (by decide) (by omega) (by omega) (fun a127 c128 w129 hp130 hn131 => ?_))
    rw [(show List.flatMap (fun (y : SlH) => [y.v]) hl ++ [.slice ya yn yc] = List.flatMap (fun (y : SlH) => [y.v]) (hl ++ [(⟨ya, yn, yc⟩ : SlH)]) from (List.flatMap_append (xs := hl) (ys := [(⟨ya, yn, yc⟩ : SlH)])).symm)] at hp130
    refine oP 1 [0, 3, 4, 8] [.slice a n c, .slice a115 (vn + 1) c116, .slice a127 (ln + 1) c128, iI (k2 : Int)] fun b132 => ?_
    refine OPS.nil (blk_n (thn_n (wQ {} [] [0, 3, 4, 8] [.slice a n c, .slice a115 (vn + 1) c116, .slice a127 (ln + 1) c128, iI ((k2 : Int) + 1)] (.cons (show Rng .i64 ((k2 : Int) + 1) from Rng.i64 (by omega)) .nil) fun b133 => ?_)))
    refine thn_n ?_
    have hp134 := hp130.pull4
    have hp135 := hp134.pull4
    have hp136 := hp135.pull4
    have hp137 := Hp.alsPut (ps := ps2) (i := k2) (p := ⟨⟨xa, xn, xc⟩, vy, ⟨ya, yn, yc⟩, ly⟩) hp136 (by omega)
    exact ⟨n - (k2 + 1), (by omega), k2 + 1, (ps2.set k2 ⟨⟨xa, xn, xc⟩, vy, ⟨ya, yn, yc⟩, ly⟩), hv ++ [(⟨xa, xn, xc⟩ : SlH)], hl ++ [(⟨ya, yn, yc⟩ : SlH)], a115, vn + 1, c116, a127, ln + 1, c128, rfl, ⟨by omega, sb.set (by omega), sc.set2 (by omega) t1 t2⟩, by kernel_rfl, (((((hp137.pull0).pull5).pull5).pull5).sub (.cons_cons _ (.cons_cons _ (.cons_cons _ (.cons_cons _ (.cons _ (.cons _ (.refl _))))))))⟩
  ·refine WP.exit (thn_x (thn_x (blk_hit (thn_n (WP.seq (WP.seq (wP [0, 3, 4, 12] [.slice a n c, .slice va vn vc, .slice la ln lc, iI 0] fun b138 => ?_)))))))
   refine thn_n (WP.block ?_)
   have hfin : Al2 cl hv hl ps2 n := by have e_ : k2 = n := (by omega); rw [← e_]; exact sb
   refine WP.loop (fun mz_ e139 w140 => ∃ (k3 : Nat), mz_ = n - k3 ∧ (k3 ≤ n) ∧ List.map e139 [0, 3, 4, 12] = [.slice a n c, .slice va vn vc, .slice la ln lc, iI (k3 : Int)] ∧ Hp w0 Non (Res.ow2 28 1 (.slice va vn vc) vn (List.flatMap (fun (y : SlH) => [y.v]) hv) :: Res.ow2 29 1 (.slice la ln lc) ln (List.flatMap (fun (y : SlH) => [y.v]) hl) :: Res.ow2 31 6 (.slice a n c) n (List.flatMap GStep.cells cl) :: Res.als ps2 :: L) w140) (n - (0)) ⟨0, rfl, (Nat.zero_le _), by kernel_rfl, hp60⟩ ?_
   rintro _ e139 w140 ⟨k3, rfl, hI142, hE143, hp141⟩
   obtain ⟨b144, rfl⟩ := toMk hE143
   clear hE143
   obtain ua := hI142
   refine WP.seq (WP.seq (wP [0, 3, 4, 12, 100] [.slice a n c, .slice va vn vc, .slice la ln lc, iI (k3 : Int), .bool (decide ((k3 : Int) < ((n : Nat) : Int)))] fun b145 => ?_))
   refine thn_n ?_
   refine WP.test (p := (k3 : Int) < ((n : Nat) : Int)) rfl Bp.dec (fun h146 => ?_) (fun h146 => ?_)
   ·refine WP.skip (thn_n (WP.seq (WP.block (WP.seq (WP.seq ?_)))))
    obtain ⟨vx3, lx3, hpe3⟩ := hfin.fin (k := k3) (by omega)
    obtain ⟨hC1, hC2⟩ := sc.get (by omega) hpe3
    have hD := als_get hp141.get3 (by omega) hpe3
    have hE1 := ow2_flat (f := u8c) (sz := 1) (fun _ => rfl) (by decide) hD.1
    have hE2 := ow2_flat (f := i64c) (sz := 1) (fun _ => rfl) (by decide) hD.2
    replace hE1 : vx3.length = hv[k3]!.n := hE1
    replace hE2 : lx3.length = hl[k3]!.n := hE2
    replace hC1 : ∀ y ∈ vx3, y = bI k3 := hC1
    replace hC2 : ∀ y ∈ lx3, y = mI k3 := hC2
    have hM1 := ow2_max hD.1
    have hM2 := ow2_max hD.2
    replace hM1 : hv[k3]!.n ≤ 9223372036854775807 := hM1
    replace hM2 : hl[k3]!.n ≤ 9223372036854775807 := hM2
    refine wP [0, 3, 4, 12, 13] [.slice a n c, .slice va vn vc, .slice la ln lc, iI (k3 : Int), iI 0] fun b147 => ?_
    refine thn_n (WP.block ?_)
    refine WP.loop (fun mz_ e148 w149 => ∃ (j6 : Nat), mz_ = hv[k3]!.n - j6 ∧ (j6 ≤ hv[k3]!.n) ∧ List.map e148 [0, 3, 4, 12, 13] = [.slice a n c, .slice va vn vc, .slice la ln lc, iI (k3 : Int), iI (j6 : Int)] ∧ Hp w0 Non (Res.ow2 28 1 (.slice va vn vc) vn (List.flatMap (fun (y : SlH) => [y.v]) hv) :: Res.ow2 29 1 (.slice la ln lc) ln (List.flatMap (fun (y : SlH) => [y.v]) hl) :: Res.ow2 31 6 (.slice a n c) n (List.flatMap GStep.cells cl) :: Res.als ps2 :: L) w149) (hv[k3]!.n - (0)) ⟨0, rfl, (Nat.zero_le _), by kernel_rfl, hp141⟩ ?_
    rintro _ e148 w149 ⟨j6, rfl, hI151, hE152, hp150⟩
    obtain ⟨b153, rfl⟩ := toMk hE152
    clear hE152
    obtain va6 := hI151
    refine WP.seq (WP.seq ?_)
    have := ow2_flat (sz := 1) (fun _ => rfl) (by decide) hp150.get0
    have hy155 : (hv)[k3]? = some hv[k3]! := get_bang (by first | (omega) | (simp only [List.length_append, List.length_cons, List.length_nil]; omega) | (simp only [List.length_take, List.length_append, List.length_cons, List.length_nil]; omega))
    refine wQ {} [.slice (hv[k3]!.a) (hv[k3]!.n) (hv[k3]!.c)] [0, 3, 4, 12, 13, 109] [.slice a n c, .slice va vn vc, .slice la ln lc, iI (k3 : Int), iI (j6 : Int), .bool (decide ((j6 : Int) < ((hv[k3]!.n : Nat) : Int)))] (.cons (show InB ((k3 : Int)) (vn) from ⟨by omega, by omega⟩) (.cons ((SlR.ow2 (hp150.get0)).some (by omega)) (.cons (Ld.add0 (Ld.el1 (P := Tryd.prog) (t := 28) (SlR.ow2 (hp150.get0)).rd 1 (fun _ => rfl) hy155 (o := 0) (v := .slice (hv[k3]!.a) (hv[k3]!.n) (hv[k3]!.c)) (by kernel_rfl))) .nil))) fun b156 => ?_
    refine thn_n ?_
    refine WP.test (p := (j6 : Int) < ((hv[k3]!.n : Nat) : Int)) rfl Bp.dec (fun h157 => ?_) (fun h157 => ?_)
    ·refine WP.skip (thn_n (WP.seq (WP.block (WP.seq ?_))))
     have hy159 : (vx3)[j6]? = some vx3[j6]! := get_bang (by first | (omega) | (simp only [List.length_append, List.length_cons, List.length_nil]; omega) | (simp only [List.length_take, List.length_append, List.length_cons, List.length_nil]; omega))
     refine wQ { wraps := [120], subs := [121] } [.slice (hv[k3]!.a) (hv[k3]!.n) (hv[k3]!.c), .int .u8 (vx3[j6]!), bF] [0, 3, 4, 12, 13, 121] [.slice a n c, .slice va vn vc, .slice la ln lc, iI (k3 : Int), iI (j6 : Int), bF] (.cons (show InB ((k3 : Int)) (vn) from ⟨by omega, by omega⟩) (.cons ((SlR.ow2 (hp150.get0)).some (by omega)) (.cons (Ld.add0 (Ld.el1 (P := Tryd.prog) (t := 28) (SlR.ow2 (hp150.get0)).rd 1 (fun _ => rfl) hy155 (o := 0) (v := .slice (hv[k3]!.a) (hv[k3]!.n) (hv[k3]!.c)) (by kernel_rfl))) (.cons (show InB ((j6 : Int)) (hv[k3]!.n) from ⟨by omega, by omega⟩) (.cons ((als_slv hp150.get3 (by omega) hpe3).some (by omega)) (.cons (Ld.add0 (Ld.el1 (P := Tryd.prog) (t := 5) (als_slv hp150.get3 (by omega) hpe3).rd 1 (fun _ => rfl) hy159 (o := 0) (v := .int .u8 (vx3[j6]!)) (by kernel_rfl))) (.cons (show (.bool (decide (¬ ((vx3[j6]!) = (IntKind.u8.wrap (k3 : Int))))) : Go.Value) = bF from congrArg Value.bool (decide_eq_false (fun q_ => q_ (al_get hC1 (by omega))))) .nil))))))) fun b160 => ?_
     refine thn_n (WP.condF rfl (WP.skip (blk_n (thn_n (wQ {} [] [0, 3, 4, 12, 13] [.slice a n c, .slice va vn vc, .slice la ln lc, iI (k3 : Int), iI ((j6 : Int) + 1)] (.cons (show Rng .i64 ((j6 : Int) + 1) from Rng.i64 (by omega)) .nil) fun b161 => ?_)))))
     refine thn_n ?_
     exact ⟨hv[k3]!.n - (j6 + 1), (by omega), j6 + 1, rfl, (by omega), by kernel_rfl, hp150⟩
    ·refine WP.exit (thn_x (thn_x (blk_hit (thn_n (WP.seq (wP [0, 3, 4, 12, 14] [.slice a n c, .slice va vn vc, .slice la ln lc, iI (k3 : Int), iI 0] fun b162 => ?_))))))
     refine thn_n (WP.block ?_)
     refine WP.loop (fun mz_ e163 w164 => ∃ (j7 : Nat), mz_ = hl[k3]!.n - j7 ∧ (j7 ≤ hl[k3]!.n) ∧ List.map e163 [0, 3, 4, 12, 14] = [.slice a n c, .slice va vn vc, .slice la ln lc, iI (k3 : Int), iI (j7 : Int)] ∧ Hp w0 Non (Res.ow2 28 1 (.slice va vn vc) vn (List.flatMap (fun (y : SlH) => [y.v]) hv) :: Res.ow2 29 1 (.slice la ln lc) ln (List.flatMap (fun (y : SlH) => [y.v]) hl) :: Res.ow2 31 6 (.slice a n c) n (List.flatMap GStep.cells cl) :: Res.als ps2 :: L) w164) (hl[k3]!.n - (0)) ⟨0, rfl, (Nat.zero_le _), by kernel_rfl, hp150⟩ ?_
     rintro _ e163 w164 ⟨j7, rfl, hI166, hE167, hp165⟩
     obtain ⟨b168, rfl⟩ := toMk hE167
     clear hE167
     obtain va7 := hI166
     refine WP.seq (WP.seq ?_)
     have := ow2_flat (sz := 1) (fun _ => rfl) (by decide) hp165.get1
     have hy170 : (hl)[k3]? = some hl[k3]! := get_bang (by first | (omega) | (simp only [List.length_append, List.length_cons, List.length_nil]; omega) | (simp only [List.length_take, List.length_append, List.length_cons, List.length_nil]; omega))
     refine wQ {} [.slice (hl[k3]!.a) (hl[k3]!.n) (hl[k3]!.c)] [0, 3, 4, 12, 14, 128] [.slice a n c, .slice va vn vc, .slice la ln lc, iI (k3 : Int), iI (j7 : Int), .bool (decide ((j7 : Int) < ((hl[k3]!.n : Nat) : Int)))] (.cons (show InB ((k3 : Int)) (ln) from ⟨by omega, by omega⟩) (.cons ((SlR.ow2 (hp165.get1)).some (by omega)) (.cons (Ld.add0 (Ld.el1 (P := Tryd.prog) (t := 29) (SlR.ow2 (hp165.get1)).rd 1 (fun _ => rfl) hy170 (o := 0) (v := .slice (hl[k3]!.a) (hl[k3]!.n) (hl[k3]!.c)) (by kernel_rfl))) .nil))) fun b171 => ?_
     refine thn_n ?_
     refine WP.test (p := (j7 : Int) < ((hl[k3]!.n : Nat) : Int)) rfl Bp.dec (fun h172 => ?_) (fun h172 => ?_)
     ·refine WP.skip (thn_n (WP.seq (WP.block (WP.seq ?_))))
      have hy174 : (lx3)[j7]? = some lx3[j7]! := get_bang (by first | (omega) | (simp only [List.length_append, List.length_cons, List.length_nil]; omega) | (simp only [List.length_take, List.length_append, List.length_cons, List.length_nil]; omega))
      refine wQ { subs := [140] } [.slice (hl[k3]!.a) (hl[k3]!.n) (hl[k3]!.c), iI (lx3[j7]!), bF] [0, 3, 4, 12, 14, 140] [.slice a n c, .slice va vn vc, .slice la ln lc, iI (k3 : Int), iI (j7 : Int), bF] (.cons (show InB ((k3 : Int)) (ln) from ⟨by omega, by omega⟩) (.cons ((SlR.ow2 (hp165.get1)).some (by omega)) (.cons (Ld.add0 (Ld.el1 (P := Tryd.prog) (t := 29) (SlR.ow2 (hp165.get1)).rd 1 (fun _ => rfl) hy170 (o := 0) (v := .slice (hl[k3]!.a) (hl[k3]!.n) (hl[k3]!.c)) (by kernel_rfl))) (.cons (show InB ((j7 : Int)) (hl[k3]!.n) from ⟨by omega, by omega⟩) (.cons ((als_sll hp165.get3 (by omega) hpe3).some (by omega)) (.cons (Ld.add0 (Ld.el1 (P := Tryd.prog) (t := 3) (als_sll hp165.get3 (by omega) hpe3).rd 1 (fun _ => rfl) hy174 (o := 0) (v := iI (lx3[j7]!)) (by kernel_rfl))) (.cons (show Rng .i64 ((-100) - (k3 : Int)) from Rng.i64 (by omega)) (.cons (show (.bool (decide (¬ ((lx3[j7]!) = ((-100) - (k3 : Int))))) : Go.Value) = bF from congrArg Value.bool (decide_eq_false (fun q_ => q_ (al_get hC2 (by omega))))) .nil)))))))) fun b175 => ?_
      refine thn_n (WP.condF rfl (WP.skip (blk_n (thn_n (wQ {} [] [0, 3, 4, 12, 14] [.slice a n c, .slice va vn vc, .slice la ln lc, iI (k3 : Int), iI ((j7 : Int) + 1)] (.cons (show Rng .i64 ((j7 : Int) + 1) from Rng.i64 (by omega)) .nil) fun b176 => ?_)))))
      refine thn_n ?_
      exact ⟨hl[k3]!.n - (j7 + 1), (by omega), j7 + 1, rfl, (by omega), by kernel_rfl, hp165⟩
     ·refine WP.exit (thn_x (thn_x (blk_hit (blk_n (thn_n (wQ {} [] [0, 3, 4, 12] [.slice a n c, .slice va vn vc, .slice la ln lc, iI ((k3 : Int) + 1)] (.cons (show Rng .i64 ((k3 : Int) + 1) from Rng.i64 (by omega)) .nil) fun b177 => ?_))))))
      refine thn_n ?_
      exact ⟨n - (k3 + 1), (by omega), k3 + 1, rfl, (by omega), by kernel_rfl, hp165⟩
   ·refine WP.exit (thn_x (thn_x (blk_hit (thn_n (WP.seq (wP [2] [bT] fun b178 => ?_))))))
    refine thn_n (WP.ret ?_)
    refine bodyQ.of _ rfl [bT] ⟨rfl, trivial⟩ ?_
    exact ⟨rfl, (hp141.sub (.cons _ (.cons _ (.cons _ (.cons _ (.refl _))))))⟩

end Go.Proofs.YtbpedjefoajegaaDoor.K
namespace Go.Proofs.YtbpedjefoajegaaDoor.K
open Go Go.RowKit

section
variable {P : Program} {N : Nat} {ops : Array Oper} {Q : Post} {S : World → Prop} {ks : List Nat} {e : Env} {w : World} {r : List (Nat × Bool)}
theorem HOPS.re {l : List (Nat × Bool)} {base : Env} {kz : List Nat} {vs : List Value} (vs' : List Value) (h : vs = vs') (k : HOPS P N ops Q S ks l (mk base kz vs') w) : HOPS P N ops Q S ks l (mk base kz vs) w := by rw [h]; exact k
end
end Go.Proofs.YtbpedjefoajegaaDoor.K
namespace Go.Proofs.YtbpedjefoajegaaDoor.K
open Go Go.Proofs Go.RowKit
set_option linter.unusedVariables false
set_option linter.unusedSimpArgs false
set_option maxRecDepth 20000
set_option maxHeartbeats 4000000
noncomputable abbrev qg0 := (.agg #[.string ⟨#[112, 117, 116]⟩, bT, bF, bT, bT, bF, bF] : Go.Value)
noncomputable abbrev qg1 := ([.string ⟨#[112, 117, 116]⟩, bT, bF, bT, bT, bF, bF] : List Go.Value)
noncomputable abbrev qg2 := ([.string ByteArray.empty, bF, bF, bF, bF, bF, bF] : List Go.Value)
noncomputable abbrev qg3 := fun a0 a1 a2 => ([pP a0, pP a1, .bool a2] : List Go.Value)
noncomputable abbrev qg4 := (.agg #[.string ⟨#[103, 101, 116]⟩, bT, bF, bT, bF, bF, bF] : Go.Value)
noncomputable abbrev qg5 := ([.string ⟨#[103, 101, 116]⟩, bT, bF, bT, bF, bF, bF] : List Go.Value)
noncomputable abbrev qg6 := (.agg #[.string ⟨#[98, 117, 114, 115, 116]⟩, bT, bT, bF, bF, bT, bF] : Go.Value)
noncomputable abbrev qg7 := ([.string ⟨#[98, 117, 114, 115, 116]⟩, bT, bT, bF, bF, bT, bF] : List Go.Value)
noncomputable abbrev qg8 := (.agg #[.string ⟨#[99, 117, 116]⟩, bT, bT, bF, bF, bF, bF] : Go.Value)
noncomputable abbrev qg9 := ([.string ⟨#[99, 117, 116]⟩, bT, bT, bF, bF, bF, bF] : List Go.Value)
noncomputable abbrev qg10 := (.agg #[.string ⟨#[99, 114, 97, 115, 104]⟩, bT, bF, bF, bF, bF, bT] : Go.Value)
noncomputable abbrev qg11 := ([.string ⟨#[99, 114, 97, 115, 104]⟩, bT, bF, bF, bF, bF, bT] : List Go.Value)
noncomputable abbrev qg12 := (.agg #[.string ⟨#[100, 105, 101]⟩, bT, bT, bF, bF, bF, bT] : Go.Value)
noncomputable abbrev qg13 := ([.string ⟨#[100, 105, 101]⟩, bT, bT, bF, bF, bF, bT] : List Go.Value)
noncomputable abbrev qg14 := (.agg #[.string ⟨#[114, 111, 117, 110, 100]⟩, bF, bT, bF, bF, bF, bT] : Go.Value)
noncomputable abbrev qg15 := ([.string ⟨#[114, 111, 117, 110, 100]⟩, bF, bT, bF, bF, bF, bT] : List Go.Value)
noncomputable abbrev qg16 := fun a0 => ([.string (kWord a0), bT, bF, bF, bF, bF, bF] : List Go.Value)

theorem okS_1 {A B : Int} {Ky v : ByteArray} {l : List Int} : okS ⟨1, A, B, Ky, v, l⟩ ↔ B = 0 ∧ l.length = 0 := ⟨fun h => ⟨h.2.2.1 rfl, h.2.2.2.2.2.2 rfl⟩, fun h => ⟨(show (1 : Int) ≤ 1 ∧ (1 : Int) ≤ 16 from by decide), fun q => absurd (show kA 1 = false from q) (by decide), fun _ => h.1, fun q => absurd (show kK 1 = false from q) (by decide), fun q => absurd (show kV 1 = false from q) (by decide), fun q => absurd (show (1 : Int) = 9 from q) (by decide), fun _ => h.2⟩⟩
theorem okS_2 {A B : Int} {Ky v : ByteArray} {l : List Int} : okS ⟨2, A, B, Ky, v, l⟩ ↔ B = 0 ∧ v.size = 0 ∧ l.length = 0 := ⟨fun h => ⟨h.2.2.1 rfl, h.2.2.2.2.1 rfl, h.2.2.2.2.2.2 rfl⟩, fun h => ⟨(show (1 : Int) ≤ 2 ∧ (2 : Int) ≤ 16 from by decide), fun q => absurd (show kA 2 = false from q) (by decide), fun _ => h.1, fun q => absurd (show kK 2 = false from q) (by decide), fun _ => h.2.1, fun q => absurd (show (2 : Int) = 9 from q) (by decide), fun _ => h.2.2⟩⟩
theorem okS_9 {A B : Int} {Ky v : ByteArray} {l : List Int} : okS ⟨9, A, B, Ky, v, l⟩ ↔ Ky = ⟨#[]⟩ ∧ v.size = 0 ∧ (l.length = 1 ∧ 0 ≤ l[0]! ∧ l[0]! ≤ 4294967295) := ⟨fun h => ⟨h.2.2.2.1 rfl, h.2.2.2.2.1 rfl, h.2.2.2.2.2.1 rfl⟩, fun h => ⟨(show (1 : Int) ≤ 9 ∧ (9 : Int) ≤ 16 from by decide), fun q => absurd (show kA 9 = false from q) (by decide), fun q => absurd (show kB 9 = false from q) (by decide), fun _ => h.1, fun _ => h.2.1, fun _ => h.2.2, fun q => absurd (show kL 9 = false from q) (by decide)⟩⟩
theorem okS_10 {A B : Int} {Ky v : ByteArray} {l : List Int} : okS ⟨10, A, B, Ky, v, l⟩ ↔ Ky = ⟨#[]⟩ ∧ v.size = 0 ∧ l.length = 0 := ⟨fun h => ⟨h.2.2.2.1 rfl, h.2.2.2.2.1 rfl, h.2.2.2.2.2.2 rfl⟩, fun h => ⟨(show (1 : Int) ≤ 10 ∧ (10 : Int) ≤ 16 from by decide), fun q => absurd (show kA 10 = false from q) (by decide), fun q => absurd (show kB 10 = false from q) (by decide), fun _ => h.1, fun _ => h.2.1, fun q => absurd (show (10 : Int) = 9 from q) (by decide), fun _ => h.2.2⟩⟩
theorem okS_12 {A B : Int} {Ky v : ByteArray} {l : List Int} : okS ⟨12, A, B, Ky, v, l⟩ ↔ B = 0 ∧ Ky = ⟨#[]⟩ ∧ v.size = 0 := ⟨fun h => ⟨h.2.2.1 rfl, h.2.2.2.1 rfl, h.2.2.2.2.1 rfl⟩, fun h => ⟨(show (1 : Int) ≤ 12 ∧ (12 : Int) ≤ 16 from by decide), fun q => absurd (show kA 12 = false from q) (by decide), fun _ => h.1, fun _ => h.2.1, fun _ => h.2.2, fun q => absurd (show (12 : Int) = 9 from q) (by decide), fun q => absurd (show kL 12 = false from q) (by decide)⟩⟩
theorem okS_14 {A B : Int} {Ky v : ByteArray} {l : List Int} : okS ⟨14, A, B, Ky, v, l⟩ ↔ Ky = ⟨#[]⟩ ∧ v.size = 0 := ⟨fun h => ⟨h.2.2.2.1 rfl, h.2.2.2.2.1 rfl⟩, fun h => ⟨(show (1 : Int) ≤ 14 ∧ (14 : Int) ≤ 16 from by decide), fun q => absurd (show kA 14 = false from q) (by decide), fun q => absurd (show kB 14 = false from q) (by decide), fun _ => h.1, fun _ => h.2, fun q => absurd (show (14 : Int) = 9 from q) (by decide), fun q => absurd (show kL 14 = false from q) (by decide)⟩⟩
theorem okS_16 {A B : Int} {Ky v : ByteArray} {l : List Int} : okS ⟨16, A, B, Ky, v, l⟩ ↔ A = 0 ∧ Ky = ⟨#[]⟩ ∧ v.size = 0 := ⟨fun h => ⟨h.2.1 rfl, h.2.2.2.1 rfl, h.2.2.2.2.1 rfl⟩, fun h => ⟨(show (1 : Int) ≤ 16 ∧ (16 : Int) ≤ 16 from by decide), fun _ => h.1, fun q => absurd (show kB 16 = false from q) (by decide), fun _ => h.2.1, fun _ => h.2.2, fun q => absurd (show (16 : Int) = 9 from q) (by decide), fun q => absurd (show kL 16 = false from q) (by decide)⟩⟩
def PA (k : Int) : Prop := k = 3 ∨ k = 4 ∨ k = 5 ∨ k = 6 ∨ k = 7 ∨ k = 8 ∨ k = 11 ∨ k = 13 ∨ k = 15
theorem PA.rng {k : Int} (h : PA k) : 1 ≤ k ∧ k ≤ 16 := by unfold PA at h; omega
theorem PA.fl {k : Int} (h : PA k) : kA k = true ∧ kB k = false ∧ kK k = false ∧ kV k = false ∧ kL k = false ∧ k ≠ 9 := by
  unfold PA at h; rcases h with rfl | rfl | rfl | rfl | rfl | rfl | rfl | rfl | rfl <;> decide
theorem fm_3 {w : World} (h : LibS w) : Ld Tryd.prog w 56 ((⟨0, 0, none⟩ : Addr).add ((3 : Int).toNat * 7)) (.agg #[.string (kWord 3), .bool true, .bool false, .bool false, .bool false, .bool false, .bool false]) := by
  rw [show ((⟨0, 0, none⟩ : Addr).add ((3 : Int).toNat * 7)) = ⟨0, 21, none⟩ from by kernel_rfl]; exact Ld.rowN (cs := [.string ⟨#[99, 97, 110, 99, 101, 108]⟩, bT, bF, bF, bF, bF, bF]) h.tab (by kernel_rfl)
theorem fm_4 {w : World} (h : LibS w) : Ld Tryd.prog w 56 ((⟨0, 0, none⟩ : Addr).add ((4 : Int).toNat * 7)) (.agg #[.string (kWord 4), .bool true, .bool false, .bool false, .bool false, .bool false, .bool false]) := by
  rw [show ((⟨0, 0, none⟩ : Addr).add ((4 : Int).toNat * 7)) = ⟨0, 28, none⟩ from by kernel_rfl]; exact Ld.rowN (cs := [.string ⟨#[116, 105, 99, 107]⟩, bT, bF, bF, bF, bF, bF]) h.tab (by kernel_rfl)
theorem fm_5 {w : World} (h : LibS w) : Ld Tryd.prog w 56 ((⟨0, 0, none⟩ : Addr).add ((5 : Int).toNat * 7)) (.agg #[.string (kWord 5), .bool true, .bool false, .bool false, .bool false, .bool false, .bool false]) := by
  rw [show ((⟨0, 0, none⟩ : Addr).add ((5 : Int).toNat * 7)) = ⟨0, 35, none⟩ from by kernel_rfl]; exact Ld.rowN (cs := [.string ⟨#[115, 116, 111, 112]⟩, bT, bF, bF, bF, bF, bF]) h.tab (by kernel_rfl)
theorem fm_6 {w : World} (h : LibS w) : Ld Tryd.prog w 56 ((⟨0, 0, none⟩ : Addr).add ((6 : Int).toNat * 7)) (.agg #[.string (kWord 6), .bool true, .bool false, .bool false, .bool false, .bool false, .bool false]) := by
  rw [show ((⟨0, 0, none⟩ : Addr).add ((6 : Int).toNat * 7)) = ⟨0, 42, none⟩ from by kernel_rfl]; exact Ld.rowN (cs := [.string ⟨#[100, 101, 108, 105, 118, 101, 114]⟩, bT, bF, bF, bF, bF, bF]) h.tab (by kernel_rfl)
theorem fm_7 {w : World} (h : LibS w) : Ld Tryd.prog w 56 ((⟨0, 0, none⟩ : Addr).add ((7 : Int).toNat * 7)) (.agg #[.string (kWord 7), .bool true, .bool false, .bool false, .bool false, .bool false, .bool false]) := by
  rw [show ((⟨0, 0, none⟩ : Addr).add ((7 : Int).toNat * 7)) = ⟨0, 49, none⟩ from by kernel_rfl]; exact Ld.rowN (cs := [.string ⟨#[100, 114, 111, 112]⟩, bT, bF, bF, bF, bF, bF]) h.tab (by kernel_rfl)
theorem fm_8 {w : World} (h : LibS w) : Ld Tryd.prog w 56 ((⟨0, 0, none⟩ : Addr).add ((8 : Int).toNat * 7)) (.agg #[.string (kWord 8), .bool true, .bool false, .bool false, .bool false, .bool false, .bool false]) := by
  rw [show ((⟨0, 0, none⟩ : Addr).add ((8 : Int).toNat * 7)) = ⟨0, 56, none⟩ from by kernel_rfl]; exact Ld.rowN (cs := [.string ⟨#[100, 111, 117, 98, 108, 101]⟩, bT, bF, bF, bF, bF, bF]) h.tab (by kernel_rfl)
theorem fm_11 {w : World} (h : LibS w) : Ld Tryd.prog w 56 ((⟨0, 0, none⟩ : Addr).add ((11 : Int).toNat * 7)) (.agg #[.string (kWord 11), .bool true, .bool false, .bool false, .bool false, .bool false, .bool false]) := by
  rw [show ((⟨0, 0, none⟩ : Addr).add ((11 : Int).toNat * 7)) = ⟨0, 77, none⟩ from by kernel_rfl]; exact Ld.rowN (cs := [.string ⟨#[108, 111, 115, 101]⟩, bT, bF, bF, bF, bF, bF]) h.tab (by kernel_rfl)
theorem fm_13 {w : World} (h : LibS w) : Ld Tryd.prog w 56 ((⟨0, 0, none⟩ : Addr).add ((13 : Int).toNat * 7)) (.agg #[.string (kWord 13), .bool true, .bool false, .bool false, .bool false, .bool false, .bool false]) := by
  rw [show ((⟨0, 0, none⟩ : Addr).add ((13 : Int).toNat * 7)) = ⟨0, 91, none⟩ from by kernel_rfl]; exact Ld.rowN (cs := [.string ⟨#[115, 116, 97, 114, 116]⟩, bT, bF, bF, bF, bF, bF]) h.tab (by kernel_rfl)
theorem fm_15 {w : World} (h : LibS w) : Ld Tryd.prog w 56 ((⟨0, 0, none⟩ : Addr).add ((15 : Int).toNat * 7)) (.agg #[.string (kWord 15), .bool true, .bool false, .bool false, .bool false, .bool false, .bool false]) := by
  rw [show ((⟨0, 0, none⟩ : Addr).add ((15 : Int).toNat * 7)) = ⟨0, 105, none⟩ from by kernel_rfl]; exact Ld.rowN (cs := [.string ⟨#[99, 111, 109, 112, 97, 99, 116]⟩, bT, bF, bF, bF, bF, bF]) h.tab (by kernel_rfl)
theorem fm_a {k : Int} (hp : PA k) {w : World} (h : LibS w) : Ld Tryd.prog w 56 ((⟨0, 0, none⟩ : Addr).add ((k : Int).toNat * 7)) (.agg #[.string (kWord k), .bool true, .bool false, .bool false, .bool false, .bool false, .bool false]) := by
  unfold PA at hp; rcases hp with rfl | rfl | rfl | rfl | rfl | rfl | rfl | rfl | rfl
  · exact fm_3 h
  · exact fm_4 h
  · exact fm_5 h
  · exact fm_6 h
  · exact fm_7 h
  · exact fm_8 h
  · exact fm_11 h
  · exact fm_13 h
  · exact fm_15 h
theorem okS_k {k A B : Int} {Ky v : ByteArray} {l : List Int} (hp : PA k) : okS ⟨k, A, B, Ky, v, l⟩ ↔ B = 0 ∧ Ky = ⟨#[]⟩ ∧ v.size = 0 ∧ l.length = 0 := by
  obtain ⟨f1, f2, f3, f4, f5, f6⟩ := hp.fl
  exact ⟨fun h => ⟨h.2.2.1 f2, h.2.2.2.1 f3, h.2.2.2.2.1 f4, h.2.2.2.2.2.2 f5⟩, fun h => ⟨hp.rng, fun q => absurd (f1.symm.trans q) (by decide), fun _ => h.1, fun _ => h.2.1, fun _ => h.2.2.1, fun q => absurd q f6, fun _ => h.2.2.2⟩⟩
theorem chk_k1 (A B : Int) (Ky : ByteArray) (V L : SlH) (v : ByteArray) (l : List Int) (w : World) (hl : LibS w) (hv : V.n = v.size) (hn : L.n = l.length) (hL : SlR w L.a L.n (l.flatMap i64c)) :
  Calls Tryd.prog 8 #[GStep.val (⟨1, A, B, Ky, V, L⟩ : GStep)] w (fun r_ w' => r_ = .returned (.int .i64 (chkI ⟨1, A, B, Ky, v, l⟩)) ∧ Fram Non w w') := by
 refine calls_of Tryd.func8 rfl 81 rfl (by simp) ?_
 have hp0 := Hp.init w
 have he0 : List.map (env0 [GStep.val (⟨1, A, B, Ky, V, L⟩ : GStep)]) [0] = [GStep.val (⟨1, A, B, Ky, V, L⟩ : GStep)] := by kernel_rfl
 obtain ⟨b0, he0⟩ := toMk he0
 rw [he0]
 clear he0
 refine WP.seq (wR ?_)
 refine OPS.cons (opStep.box hp0 [iI 1, iI A, iI B, .string Ky, .slice V.a V.n V.c, .slice L.a L.n L.c] (by kernel_rfl) (fun g3 w1 hp2 => ?_))
 refine oP 1 [1] [pP g3] fun b4 => ?_
 refine OPS.nil (thn_n (WP.seq (WP.seq (wQ { wraps := [11] } [iI 1, iI 1] [1, 11] [pP g3, bF] (.cons (l1 3 0 (iI 1) hp2.get0) (.cons (l1 3 0 (iI 1) hp2.get0) .nil)) fun b5 => ?_))))
 refine thn_n (WP.condF rfl (WP.skip (thn_n (WP.seq (wR (oQ 4 {} [iI 1, qg0] [1, 15] [pP g3, qg0] (.cons (l1 3 0 (iI 1) hp2.get0) (.cons (show InB (1) (17) from ⟨by omega, by omega⟩) (.cons (lN 56 7 qg1 (row_at hl.tab hp2.fr)) .nil))) fun b6 => ?_))))))
 refine OPS.cons (opStep.alloc hp2 qg2 (by kernel_rfl) (fun g9 w7 hp8 => ?_))
 refine OPS.cons (opStep.store0 hp8 rfl qg1 qg1 (by kernel_rfl) (fun w10 hp11 => ?_))
 refine OPS.nil (thn_n (WP.seq (WP.block ?_)))
 refine WP.cut (fun e20 w21 => ∃ (x18 : Bool), (True) ∧ Bp x18 ((¬ (B = 0)) ∧ (¬ (B = 0))) ∧ List.map e20 [1, 3, 16] = (qg3 g3 g9 x18) ∧ Hp w Non [Res.row g9 qg1 56, Res.row g3 [iI 1, iI A, iI B, .string Ky, .slice V.a V.n V.c, .slice L.a L.n L.c] 31] w21) ?_ ?_
 ·refine WP.seq (wQ { wraps := [24] } [bT] [1, 3, 16] [pP g3, pP g9, bF] (.cons (l1 4 1 (bT) hp11.get0) .nil) fun b13 => ?_)
  refine thn_n (WP.condF rfl (WP.seq (wQ { wraps := [32] } [bF, iI B] [1, 3, 16] [pP g3, pP g9, .bool (decide (¬ (B = 0)))] (.cons (l1 4 2 (bF) hp11.get0) (.cons (l1 3 2 (iI B) hp11.get1) .nil)) fun b14 => ?_)))
  refine thn_n ?_
  refine WP.test (p := ¬ (B = 0)) rfl Bp.dec (fun h15 => ?_) (fun h15 => ?_)
  ·refine WP.skip (thn_n ?_)
   exact ⟨decide (¬ (B = 0)), trivial, Bp.of Bp.dec (by first | (simp [h15]; done) | grind | (simp_all; done)), by kernel_rfl, hp11⟩
  ·replace h15 := Classical.not_not.1 h15
   refine WP.seq (wQ { wraps := [40] } [bT] [1, 3, 16] [pP g3, pP g9, bF] (.cons (l1 4 3 (bT) hp11.get0) .nil) fun b16 => ?_)
   refine thn_n (WP.condF rfl (wQ { wraps := [49] } [bT] [1, 3, 16] [pP g3, pP g9, bF] (.cons (l1 4 4 (bT) hp11.get0) .nil) fun b17 => ?_))
   refine thn_n ?_
   exact ⟨false, trivial, Bp.of Bp.f (by first | (simp [h15]; done) | grind | (simp_all; done)), by kernel_rfl, hp11⟩
 rintro e20 w21 ⟨x18, hd23, hb19, hE24, hp22⟩
 obtain ⟨b25, rfl⟩ := toMk hE24
 clear hE24
 clear hd23
 refine WP.test (p := (¬ (B = 0)) ∧ (¬ (B = 0))) rfl hb19 (fun h26 => ?_) (fun h26 => ?_)
 ·refine WP.seq (wP [2] [iI 1] fun b27 => ?_)
  refine thn_n (WP.ret ?_)
  refine blk_r ?_
  refine thn_r ?_
  refine bodyQ.of _ rfl [iI 1] ⟨rfl, trivial⟩ ?_
  exact ⟨by simp only [pack]; rw [chk_1 (show (1 : Int) ≤ 1 ∧ (1 : Int) ≤ 16 by decide) (fun q => by rw [okS_1] at q; have h_ := h26; clear hL; first | omega | grind | (simp_all; done) | (simp_all; omega))], hp22.fr⟩
 ·refine WP.seq (wQ {} [bF] [1, 3, 50] [pP g3, pP g9, bF] (.cons (l1 4 5 (bF) hp22.get0) .nil) fun b28 => ?_)
  refine thn_n (WP.condF rfl (WP.seq (wQ { wraps := [80] } [bF, .slice L.a L.n L.c] [71] [.bool (decide (0 < ((L.n : Nat) : Int)))] (.cons (l1 4 6 (bF) hp22.get0) (.cons (l1 29 5 (.slice L.a L.n L.c) hp22.get1) .nil)) fun b29 => ?_)))
  refine thn_n ?_
  refine WP.test (p := 0 < ((L.n : Nat) : Int)) rfl Bp.dec (fun h30 => ?_) (fun h30 => ?_)
  ·refine WP.seq (wP [2] [iI 1] fun b31 => ?_)
   refine thn_n (WP.ret ?_)
   refine blk_r ?_
   refine thn_r ?_
   refine bodyQ.of _ rfl [iI 1] ⟨rfl, trivial⟩ ?_
   exact ⟨by simp only [pack]; rw [chk_1 (show (1 : Int) ≤ 1 ∧ (1 : Int) ≤ 16 by decide) (fun q => by rw [okS_1] at q; have h_ := h30; clear hL; first | omega | grind | (simp_all; done) | (simp_all; omega))], hp22.fr⟩
  ·refine WP.skip (blk_n (thn_n (WP.seq (wP [2] [iI 0] fun b32 => ?_))))
   refine thn_n (WP.ret ?_)
   refine bodyQ.of _ rfl [iI 0] ⟨rfl, trivial⟩ ?_
   exact ⟨by simp only [pack]; rw [chk_0 (by rw [okS_1]; clear hL; first | omega | grind | (simp_all; done) | (simp_all; omega))], hp22.fr⟩

theorem chk_k2 (A B : Int) (Ky : ByteArray) (V L : SlH) (v : ByteArray) (l : List Int) (w : World) (hl : LibS w) (hv : V.n = v.size) (hn : L.n = l.length) (hL : SlR w L.a L.n (l.flatMap i64c)) :
  Calls Tryd.prog 8 #[GStep.val (⟨2, A, B, Ky, V, L⟩ : GStep)] w (fun r_ w' => r_ = .returned (.int .i64 (chkI ⟨2, A, B, Ky, v, l⟩)) ∧ Fram Non w w') := by
 refine calls_of Tryd.func8 rfl 81 rfl (by simp) ?_
 have hp0 := Hp.init w
 have he0 : List.map (env0 [GStep.val (⟨2, A, B, Ky, V, L⟩ : GStep)]) [0] = [GStep.val (⟨2, A, B, Ky, V, L⟩ : GStep)] := by kernel_rfl
 obtain ⟨b0, he0⟩ := toMk he0
 rw [he0]
 clear he0
 refine WP.seq (wR ?_)
 refine OPS.cons (opStep.box hp0 [iI 2, iI A, iI B, .string Ky, .slice V.a V.n V.c, .slice L.a L.n L.c] (by kernel_rfl) (fun g3 w1 hp2 => ?_))
 refine oP 1 [1] [pP g3] fun b4 => ?_
 refine OPS.nil (thn_n (WP.seq (WP.seq (wQ { wraps := [11] } [iI 2, iI 2] [1, 11] [pP g3, bF] (.cons (l1 3 0 (iI 2) hp2.get0) (.cons (l1 3 0 (iI 2) hp2.get0) .nil)) fun b5 => ?_))))
 refine thn_n (WP.condF rfl (WP.skip (thn_n (WP.seq (wR (oQ 4 {} [iI 2, qg4] [1, 15] [pP g3, qg4] (.cons (l1 3 0 (iI 2) hp2.get0) (.cons (show InB (2) (17) from ⟨by omega, by omega⟩) (.cons (lN 56 14 qg5 (row_at hl.tab hp2.fr)) .nil))) fun b6 => ?_))))))
 refine OPS.cons (opStep.alloc hp2 qg2 (by kernel_rfl) (fun g9 w7 hp8 => ?_))
 refine OPS.cons (opStep.store0 hp8 rfl qg5 qg5 (by kernel_rfl) (fun w10 hp11 => ?_))
 refine OPS.nil (thn_n (WP.seq (WP.block ?_)))
 refine WP.cut (fun e20 w21 => ∃ (x18 : Bool), (True) ∧ Bp x18 (((¬ (B = 0)) ∧ (¬ (B = 0))) ∨ ((B = 0) ∧ (0 < ((V.n : Nat) : Int)))) ∧ List.map e20 [1, 3, 16] = (qg3 g3 g9 x18) ∧ Hp w Non [Res.row g9 qg5 56, Res.row g3 [iI 2, iI A, iI B, .string Ky, .slice V.a V.n V.c, .slice L.a L.n L.c] 31] w21) ?_ ?_
 ·refine WP.seq (wQ { wraps := [24] } [bT] [1, 3, 16] [pP g3, pP g9, bF] (.cons (l1 4 1 (bT) hp11.get0) .nil) fun b13 => ?_)
  refine thn_n (WP.condF rfl (WP.seq (wQ { wraps := [32] } [bF, iI B] [1, 3, 16] [pP g3, pP g9, .bool (decide (¬ (B = 0)))] (.cons (l1 4 2 (bF) hp11.get0) (.cons (l1 3 2 (iI B) hp11.get1) .nil)) fun b14 => ?_)))
  refine thn_n ?_
  refine WP.test (p := ¬ (B = 0)) rfl Bp.dec (fun h15 => ?_) (fun h15 => ?_)
  ·refine WP.skip (thn_n ?_)
   exact ⟨decide (¬ (B = 0)), trivial, Bp.of Bp.dec (by first | (simp [h15]; done) | grind | (simp_all; done)), by kernel_rfl, hp11⟩
  ·replace h15 := Classical.not_not.1 h15
   refine WP.seq (wQ { wraps := [40] } [bT] [1, 3, 16] [pP g3, pP g9, bF] (.cons (l1 4 3 (bT) hp11.get0) .nil) fun b16 => ?_)
   refine thn_n (WP.condF rfl (wQ { wraps := [49] } [bF, .slice V.a V.n V.c] [1, 3, 16] [pP g3, pP g9, .bool (decide (0 < ((V.n : Nat) : Int)))] (.cons (l1 4 4 (bF) hp11.get0) (.cons (l1 28 4 (.slice V.a V.n V.c) hp11.get1) .nil)) fun b17 => ?_))
   refine thn_n ?_
   exact ⟨decide (0 < ((V.n : Nat) : Int)), trivial, Bp.of Bp.dec (by first | (simp [h15]; done) | grind | (simp_all; done)), by kernel_rfl, hp11⟩
 rintro e20 w21 ⟨x18, hd23, hb19, hE24, hp22⟩
 obtain ⟨b25, rfl⟩ := toMk hE24
 clear hE24
 clear hd23
 refine WP.test (p := ((¬ (B = 0)) ∧ (¬ (B = 0))) ∨ ((B = 0) ∧ (0 < ((V.n : Nat) : Int)))) rfl hb19 (fun h26 => ?_) (fun h26 => ?_)
 ·refine WP.seq (wP [2] [iI 1] fun b27 => ?_)
  refine thn_n (WP.ret ?_)
  refine blk_r ?_
  refine thn_r ?_
  refine bodyQ.of _ rfl [iI 1] ⟨rfl, trivial⟩ ?_
  exact ⟨by simp only [pack]; rw [chk_1 (show (1 : Int) ≤ 2 ∧ (2 : Int) ≤ 16 by decide) (fun q => by rw [okS_2] at q; have h_ := h26; clear hL; first | omega | grind | (simp_all; done) | (simp_all; omega))], hp22.fr⟩
 ·refine WP.seq (wQ {} [bF] [1, 3, 50] [pP g3, pP g9, bF] (.cons (l1 4 5 (bF) hp22.get0) .nil) fun b28 => ?_)
  refine thn_n (WP.condF rfl (WP.seq (wQ { wraps := [80] } [bF, .slice L.a L.n L.c] [71] [.bool (decide (0 < ((L.n : Nat) : Int)))] (.cons (l1 4 6 (bF) hp22.get0) (.cons (l1 29 5 (.slice L.a L.n L.c) hp22.get1) .nil)) fun b29 => ?_)))
  refine thn_n ?_
  refine WP.test (p := 0 < ((L.n : Nat) : Int)) rfl Bp.dec (fun h30 => ?_) (fun h30 => ?_)
  ·refine WP.seq (wP [2] [iI 1] fun b31 => ?_)
   refine thn_n (WP.ret ?_)
   refine blk_r ?_
   refine thn_r ?_
   refine bodyQ.of _ rfl [iI 1] ⟨rfl, trivial⟩ ?_
   exact ⟨by simp only [pack]; rw [chk_1 (show (1 : Int) ≤ 2 ∧ (2 : Int) ≤ 16 by decide) (fun q => by rw [okS_2] at q; have h_ := h30; clear hL; first | omega | grind | (simp_all; done) | (simp_all; omega))], hp22.fr⟩
  ·refine WP.skip (blk_n (thn_n (WP.seq (wP [2] [iI 0] fun b32 => ?_))))
   refine thn_n (WP.ret ?_)
   refine bodyQ.of _ rfl [iI 0] ⟨rfl, trivial⟩ ?_
   exact ⟨by simp only [pack]; rw [chk_0 (by rw [okS_2]; clear hL; first | omega | grind | (simp_all; done) | (simp_all; omega))], hp22.fr⟩

theorem chk_k9 (A B : Int) (Ky : ByteArray) (V L : SlH) (v : ByteArray) (l : List Int) (w : World) (hl : LibS w) (hv : V.n = v.size) (hn : L.n = l.length) (hL : SlR w L.a L.n (l.flatMap i64c)) :
  Calls Tryd.prog 8 #[GStep.val (⟨9, A, B, Ky, V, L⟩ : GStep)] w (fun r_ w' => r_ = .returned (.int .i64 (chkI ⟨9, A, B, Ky, v, l⟩)) ∧ Fram Non w w') := by
 refine calls_of Tryd.func8 rfl 81 rfl (by simp) ?_
 have hp0 := Hp.init w
 have he0 : List.map (env0 [GStep.val (⟨9, A, B, Ky, V, L⟩ : GStep)]) [0] = [GStep.val (⟨9, A, B, Ky, V, L⟩ : GStep)] := by kernel_rfl
 obtain ⟨b0, he0⟩ := toMk he0
 rw [he0]
 clear he0
 refine WP.seq (wR ?_)
 refine OPS.cons (opStep.box hp0 [iI 9, iI A, iI B, .string Ky, .slice V.a V.n V.c, .slice L.a L.n L.c] (by kernel_rfl) (fun g3 w1 hp2 => ?_))
 refine oP 1 [1] [pP g3] fun b4 => ?_
 refine OPS.nil (thn_n (WP.seq (WP.seq (wQ { wraps := [11] } [iI 9, iI 9] [1, 11] [pP g3, bF] (.cons (l1 3 0 (iI 9) hp2.get0) (.cons (l1 3 0 (iI 9) hp2.get0) .nil)) fun b5 => ?_))))
 refine thn_n (WP.condF rfl (WP.skip (thn_n (WP.seq (wR (oQ 4 {} [iI 9, qg6] [1, 15] [pP g3, qg6] (.cons (l1 3 0 (iI 9) hp2.get0) (.cons (show InB (9) (17) from ⟨by omega, by omega⟩) (.cons (lN 56 63 qg7 (row_at hl.tab hp2.fr)) .nil))) fun b6 => ?_))))))
 refine OPS.cons (opStep.alloc hp2 qg2 (by kernel_rfl) (fun g9 w7 hp8 => ?_))
 refine OPS.cons (opStep.store0 hp8 rfl qg7 qg7 (by kernel_rfl) (fun w10 hp11 => ?_))
 refine OPS.nil (thn_n (WP.seq (WP.block ?_)))
 refine WP.cut (fun e20 w21 => ∃ (x18 : Bool), (True) ∧ Bp x18 (((¬ (Ky = ⟨#[]⟩)) ∧ (¬ (Ky = ⟨#[]⟩))) ∨ ((Ky = ⟨#[]⟩) ∧ (0 < ((V.n : Nat) : Int)))) ∧ List.map e20 [1, 3, 16] = (qg3 g3 g9 x18) ∧ Hp w Non [Res.row g9 qg7 56, Res.row g3 [iI 9, iI A, iI B, .string Ky, .slice V.a V.n V.c, .slice L.a L.n L.c] 31] w21) ?_ ?_
 ·refine WP.seq (wQ { wraps := [24] } [bT] [1, 3, 16] [pP g3, pP g9, bF] (.cons (l1 4 1 (bT) hp11.get0) .nil) fun b13 => ?_)
  refine thn_n (WP.condF rfl (WP.seq (wQ { wraps := [32] } [bT] [1, 3, 16] [pP g3, pP g9, bF] (.cons (l1 4 2 (bT) hp11.get0) .nil) fun b14 => ?_)))
  refine thn_n (WP.condF rfl (WP.seq (wQ { wraps := [40] } [bF, .string Ky] [1, 3, 16] [pP g3, pP g9, .bool (decide (¬ (Ky = ⟨#[]⟩)))] (.cons (l1 4 3 (bF) hp11.get0) (.cons (l1 9 3 (.string Ky) hp11.get1) .nil)) fun b15 => ?_)))
  refine thn_n ?_
  refine WP.test (p := ¬ (Ky = ⟨#[]⟩)) rfl Bp.dec (fun h16 => ?_) (fun h16 => ?_)
  ·refine WP.skip (thn_n ?_)
   exact ⟨decide (¬ (Ky = ⟨#[]⟩)), trivial, Bp.of Bp.dec (by first | (simp [h16]; done) | grind | (simp_all; done)), by kernel_rfl, hp11⟩
  ·replace h16 := Classical.not_not.1 h16
   refine wQ { wraps := [49] } [bF, .slice V.a V.n V.c] [1, 3, 16] [pP g3, pP g9, .bool (decide (0 < ((V.n : Nat) : Int)))] (.cons (l1 4 4 (bF) hp11.get0) (.cons (l1 28 4 (.slice V.a V.n V.c) hp11.get1) .nil)) fun b17 => ?_
   refine thn_n ?_
   exact ⟨decide (0 < ((V.n : Nat) : Int)), trivial, Bp.of Bp.dec (by first | (simp [h16]; done) | grind | (simp_all; done)), by kernel_rfl, hp11⟩
 rintro e20 w21 ⟨x18, hd23, hb19, hE24, hp22⟩
 obtain ⟨b25, rfl⟩ := toMk hE24
 clear hE24
 clear hd23
 refine WP.test (p := ((¬ (Ky = ⟨#[]⟩)) ∧ (¬ (Ky = ⟨#[]⟩))) ∨ ((Ky = ⟨#[]⟩) ∧ (0 < ((V.n : Nat) : Int)))) rfl hb19 (fun h26 => ?_) (fun h26 => ?_)
 ·refine WP.seq (wP [2] [iI 1] fun b27 => ?_)
  refine thn_n (WP.ret ?_)
  refine blk_r ?_
  refine thn_r ?_
  refine bodyQ.of _ rfl [iI 1] ⟨rfl, trivial⟩ ?_
  exact ⟨by simp only [pack]; rw [chk_1 (show (1 : Int) ≤ 9 ∧ (9 : Int) ≤ 16 by decide) (fun q => by rw [okS_9] at q; have h_ := h26; clear hL; first | omega | grind | (simp_all; done) | (simp_all; omega))], hp22.fr⟩
 ·refine WP.seq (wQ {} [bT] [1, 3, 50] [pP g3, pP g9, bT] (.cons (l1 4 5 (bT) hp22.get0) .nil) fun b28 => ?_)
  refine thn_n (WP.condT rfl ?_)
  refine WP.cut (fun e45 w46 => ∃ (x43 : Bool), (True) ∧ Bp x43 (((¬ (((L.n : Nat) : Int) = 1))) ∨ ((((L.n : Nat) : Int) = 1) ∧ ((l[0]!) < 0)) ∨ ((((L.n : Nat) : Int) = 1) ∧ (¬ ((l[0]!) < 0)) ∧ (4294967295 < (l[0]!)))) ∧ List.map e45 [70] = [.bool x43] ∧ Hp w Non [Res.row g9 qg7 56, Res.row g3 [iI 9, iI A, iI B, .string Ky, .slice V.a V.n V.c, .slice L.a L.n L.c] 31] w46) ?_ ?_
  ·refine wR (oQ 5 {} [.slice L.a L.n L.c] [1, 57] [pP g3, .bool (decide (¬ (((L.n : Nat) : Int) = 1)))] (.cons (l1 29 5 (.slice L.a L.n L.c) hp22.get1) .nil) fun b30 => ?_)
   by_cases h31 : ((L.n : Nat) : Int) = 1
   ·refine oP 0 [1, 57] [pP g3, .bool (decide (¬ (((L.n : Nat) : Int) = 1)))] fun b34 => ?_
    refine OPS.re [pP g3, bF] (by rw [show (decide (¬ (((L.n : Nat) : Int) = 1))) = false from Bp.dec.ff (fun k => k h31)]) ?_
    have hy36 : (l)[0]? = some l[0]! := get_bang (by first | (omega) | (simp only [List.length_append, List.length_cons, List.length_nil]; omega) | (simp only [List.length_take, List.length_append, List.length_cons, List.length_nil]; omega))
    refine oQ 7 { wraps := [63] } [.slice L.a L.n L.c, iI (l[0]!)] [1, 64] [pP g3, .bool (decide ((l[0]!) < 0))] (.cons (l1 29 5 (.slice L.a L.n L.c) hp22.get1) (.cons (show InB (0) (L.n) from ⟨by omega, by omega⟩) (.cons ((hL.at hp22).some (by omega)) (.cons (Ld.add0 (Ld.el1 (P := Tryd.prog) (t := 3) (hL.at hp22).rd 1 (fun _ => rfl) hy36 (o := 0) (v := iI (l[0]!)) (by kernel_rfl))) .nil)))) fun b37 => ?_
    by_cases h38 : (l[0]!) < 0
    ·refine oP 0 [1, 64] [pP g3, .bool (decide ((l[0]!) < 0))] fun b39 => ?_
     refine OPS.re [pP g3, bT] (by rw [show (decide ((l[0]!) < 0)) = true from Bp.dec.tt h38]) ?_
     refine oQ 6 { wraps := [70] } [] [70] [bT] .nil fun b40 => ?_
     refine OPS.nil (thn_n ?_)
     exact ⟨true, trivial, Bp.of Bp.t (by first | (simp [h31, h38]; done) | grind | (simp_all; done)), by kernel_rfl, hp22⟩
    ·refine oP 0 [1, 64] [pP g3, .bool (decide ((l[0]!) < 0))] fun b41 => ?_
     refine OPS.re [pP g3, bF] (by rw [show (decide ((l[0]!) < 0)) = false from Bp.dec.ff h38]) ?_
     refine oQ 6 { wraps := [70] } [.slice L.a L.n L.c, iI (l[0]!)] [70] [.bool (decide (4294967295 < (l[0]!)))] (.cons (l1 29 5 (.slice L.a L.n L.c) hp22.get1) (.cons (show InB (0) (L.n) from ⟨by omega, by omega⟩) (.cons ((hL.at hp22).some (by omega)) (.cons (Ld.add0 (Ld.el1 (P := Tryd.prog) (t := 3) (hL.at hp22).rd 1 (fun _ => rfl) hy36 (o := 0) (v := iI (l[0]!)) (by kernel_rfl))) .nil)))) fun b42 => ?_
     refine OPS.nil (thn_n ?_)
     exact ⟨decide (4294967295 < (l[0]!)), trivial, Bp.of Bp.dec (by first | (simp [h31, h38]; done) | grind | (simp_all; done)), by kernel_rfl, hp22⟩
   ·refine oP 0 [1, 57] [pP g3, .bool (decide (¬ (((L.n : Nat) : Int) = 1)))] fun b32 => ?_
    refine OPS.re [pP g3, bT] (by rw [show (decide (¬ (((L.n : Nat) : Int) = 1))) = true from Bp.dec.tt h31]) ?_
    refine oQ 13 { wraps := [63, 70] } [] [70] [bT] .nil fun b33 => ?_
    refine OPS.nil (thn_n ?_)
    exact ⟨true, trivial, Bp.of Bp.t (by first | (simp [h31]; done) | grind | (simp_all; done)), by kernel_rfl, hp22⟩
  rintro e45 w46 ⟨x43, hd48, hb44, hE49, hp47⟩
  obtain ⟨b50, rfl⟩ := toMk hE49
  clear hE49
  clear hd48
  refine WP.test (p := ((¬ (((L.n : Nat) : Int) = 1))) ∨ ((((L.n : Nat) : Int) = 1) ∧ ((l[0]!) < 0)) ∨ ((((L.n : Nat) : Int) = 1) ∧ (¬ ((l[0]!) < 0)) ∧ (4294967295 < (l[0]!)))) rfl hb44 (fun h51 => ?_) (fun h51 => ?_)
  ·refine WP.seq (wP [2] [iI 1] fun b52 => ?_)
   refine thn_n (WP.ret ?_)
   refine blk_r ?_
   refine thn_r ?_
   refine bodyQ.of _ rfl [iI 1] ⟨rfl, trivial⟩ ?_
   exact ⟨by simp only [pack]; rw [chk_1 (show (1 : Int) ≤ 9 ∧ (9 : Int) ≤ 16 by decide) (fun q => by rw [okS_9] at q; have h_ := h51; clear hL; first | omega | grind | (simp_all; done) | (simp_all; omega))], hp47.fr⟩
  ·refine WP.skip (blk_n (thn_n (WP.seq (wP [2] [iI 0] fun b53 => ?_))))
   refine thn_n (WP.ret ?_)
   refine bodyQ.of _ rfl [iI 0] ⟨rfl, trivial⟩ ?_
   exact ⟨by simp only [pack]; rw [chk_0 (by rw [okS_9]; clear hL; first | omega | grind | (simp_all; done) | (simp_all; omega))], hp47.fr⟩

theorem chk_k10 (A B : Int) (Ky : ByteArray) (V L : SlH) (v : ByteArray) (l : List Int) (w : World) (hl : LibS w) (hv : V.n = v.size) (hn : L.n = l.length) (hL : SlR w L.a L.n (l.flatMap i64c)) :
  Calls Tryd.prog 8 #[GStep.val (⟨10, A, B, Ky, V, L⟩ : GStep)] w (fun r_ w' => r_ = .returned (.int .i64 (chkI ⟨10, A, B, Ky, v, l⟩)) ∧ Fram Non w w') := by
 refine calls_of Tryd.func8 rfl 81 rfl (by simp) ?_
 have hp0 := Hp.init w
 have he0 : List.map (env0 [GStep.val (⟨10, A, B, Ky, V, L⟩ : GStep)]) [0] = [GStep.val (⟨10, A, B, Ky, V, L⟩ : GStep)] := by kernel_rfl
 obtain ⟨b0, he0⟩ := toMk he0
 rw [he0]
 clear he0
 refine WP.seq (wR ?_)
 refine OPS.cons (opStep.box hp0 [iI 10, iI A, iI B, .string Ky, .slice V.a V.n V.c, .slice L.a L.n L.c] (by kernel_rfl) (fun g3 w1 hp2 => ?_))
 refine oP 1 [1] [pP g3] fun b4 => ?_
 refine OPS.nil (thn_n (WP.seq (WP.seq (wQ { wraps := [11] } [iI 10, iI 10] [1, 11] [pP g3, bF] (.cons (l1 3 0 (iI 10) hp2.get0) (.cons (l1 3 0 (iI 10) hp2.get0) .nil)) fun b5 => ?_))))
 refine thn_n (WP.condF rfl (WP.skip (thn_n (WP.seq (wR (oQ 4 {} [iI 10, qg8] [1, 15] [pP g3, qg8] (.cons (l1 3 0 (iI 10) hp2.get0) (.cons (show InB (10) (17) from ⟨by omega, by omega⟩) (.cons (lN 56 70 qg9 (row_at hl.tab hp2.fr)) .nil))) fun b6 => ?_))))))
 refine OPS.cons (opStep.alloc hp2 qg2 (by kernel_rfl) (fun g9 w7 hp8 => ?_))
 refine OPS.cons (opStep.store0 hp8 rfl qg9 qg9 (by kernel_rfl) (fun w10 hp11 => ?_))
 refine OPS.nil (thn_n (WP.seq (WP.block ?_)))
 refine WP.cut (fun e20 w21 => ∃ (x18 : Bool), (True) ∧ Bp x18 (((¬ (Ky = ⟨#[]⟩)) ∧ (¬ (Ky = ⟨#[]⟩))) ∨ ((Ky = ⟨#[]⟩) ∧ (0 < ((V.n : Nat) : Int)))) ∧ List.map e20 [1, 3, 16] = (qg3 g3 g9 x18) ∧ Hp w Non [Res.row g9 qg9 56, Res.row g3 [iI 10, iI A, iI B, .string Ky, .slice V.a V.n V.c, .slice L.a L.n L.c] 31] w21) ?_ ?_
 ·refine WP.seq (wQ { wraps := [24] } [bT] [1, 3, 16] [pP g3, pP g9, bF] (.cons (l1 4 1 (bT) hp11.get0) .nil) fun b13 => ?_)
  refine thn_n (WP.condF rfl (WP.seq (wQ { wraps := [32] } [bT] [1, 3, 16] [pP g3, pP g9, bF] (.cons (l1 4 2 (bT) hp11.get0) .nil) fun b14 => ?_)))
  refine thn_n (WP.condF rfl (WP.seq (wQ { wraps := [40] } [bF, .string Ky] [1, 3, 16] [pP g3, pP g9, .bool (decide (¬ (Ky = ⟨#[]⟩)))] (.cons (l1 4 3 (bF) hp11.get0) (.cons (l1 9 3 (.string Ky) hp11.get1) .nil)) fun b15 => ?_)))
  refine thn_n ?_
  refine WP.test (p := ¬ (Ky = ⟨#[]⟩)) rfl Bp.dec (fun h16 => ?_) (fun h16 => ?_)
  ·refine WP.skip (thn_n ?_)
   exact ⟨decide (¬ (Ky = ⟨#[]⟩)), trivial, Bp.of Bp.dec (by first | (simp [h16]; done) | grind | (simp_all; done)), by kernel_rfl, hp11⟩
  ·replace h16 := Classical.not_not.1 h16
   refine wQ { wraps := [49] } [bF, .slice V.a V.n V.c] [1, 3, 16] [pP g3, pP g9, .bool (decide (0 < ((V.n : Nat) : Int)))] (.cons (l1 4 4 (bF) hp11.get0) (.cons (l1 28 4 (.slice V.a V.n V.c) hp11.get1) .nil)) fun b17 => ?_
   refine thn_n ?_
   exact ⟨decide (0 < ((V.n : Nat) : Int)), trivial, Bp.of Bp.dec (by first | (simp [h16]; done) | grind | (simp_all; done)), by kernel_rfl, hp11⟩
 rintro e20 w21 ⟨x18, hd23, hb19, hE24, hp22⟩
 obtain ⟨b25, rfl⟩ := toMk hE24
 clear hE24
 clear hd23
 refine WP.test (p := ((¬ (Ky = ⟨#[]⟩)) ∧ (¬ (Ky = ⟨#[]⟩))) ∨ ((Ky = ⟨#[]⟩) ∧ (0 < ((V.n : Nat) : Int)))) rfl hb19 (fun h26 => ?_) (fun h26 => ?_)
 ·refine WP.seq (wP [2] [iI 1] fun b27 => ?_)
  refine thn_n (WP.ret ?_)
  refine blk_r ?_
  refine thn_r ?_
  refine bodyQ.of _ rfl [iI 1] ⟨rfl, trivial⟩ ?_
  exact ⟨by simp only [pack]; rw [chk_1 (show (1 : Int) ≤ 10 ∧ (10 : Int) ≤ 16 by decide) (fun q => by rw [okS_10] at q; have h_ := h26; clear hL; first | omega | grind | (simp_all; done) | (simp_all; omega))], hp22.fr⟩
 ·refine WP.seq (wQ {} [bF] [1, 3, 50] [pP g3, pP g9, bF] (.cons (l1 4 5 (bF) hp22.get0) .nil) fun b28 => ?_)
  refine thn_n (WP.condF rfl (WP.seq (wQ { wraps := [80] } [bF, .slice L.a L.n L.c] [71] [.bool (decide (0 < ((L.n : Nat) : Int)))] (.cons (l1 4 6 (bF) hp22.get0) (.cons (l1 29 5 (.slice L.a L.n L.c) hp22.get1) .nil)) fun b29 => ?_)))
  refine thn_n ?_
  refine WP.test (p := 0 < ((L.n : Nat) : Int)) rfl Bp.dec (fun h30 => ?_) (fun h30 => ?_)
  ·refine WP.seq (wP [2] [iI 1] fun b31 => ?_)
   refine thn_n (WP.ret ?_)
   refine blk_r ?_
   refine thn_r ?_
   refine bodyQ.of _ rfl [iI 1] ⟨rfl, trivial⟩ ?_
   exact ⟨by simp only [pack]; rw [chk_1 (show (1 : Int) ≤ 10 ∧ (10 : Int) ≤ 16 by decide) (fun q => by rw [okS_10] at q; have h_ := h30; clear hL; first | omega | grind | (simp_all; done) | (simp_all; omega))], hp22.fr⟩
  ·refine WP.skip (blk_n (thn_n (WP.seq (wP [2] [iI 0] fun b32 => ?_))))
   refine thn_n (WP.ret ?_)
   refine bodyQ.of _ rfl [iI 0] ⟨rfl, trivial⟩ ?_
   exact ⟨by simp only [pack]; rw [chk_0 (by rw [okS_10]; clear hL; first | omega | grind | (simp_all; done) | (simp_all; omega))], hp22.fr⟩

theorem chk_k12 (A B : Int) (Ky : ByteArray) (V L : SlH) (v : ByteArray) (l : List Int) (w : World) (hl : LibS w) (hv : V.n = v.size) (hn : L.n = l.length) (hL : SlR w L.a L.n (l.flatMap i64c)) :
  Calls Tryd.prog 8 #[GStep.val (⟨12, A, B, Ky, V, L⟩ : GStep)] w (fun r_ w' => r_ = .returned (.int .i64 (chkI ⟨12, A, B, Ky, v, l⟩)) ∧ Fram Non w w') := by
 refine calls_of Tryd.func8 rfl 81 rfl (by simp) ?_
 have hp0 := Hp.init w
 have he0 : List.map (env0 [GStep.val (⟨12, A, B, Ky, V, L⟩ : GStep)]) [0] = [GStep.val (⟨12, A, B, Ky, V, L⟩ : GStep)] := by kernel_rfl
 obtain ⟨b0, he0⟩ := toMk he0
 rw [he0]
 clear he0
 refine WP.seq (wR ?_)
 refine OPS.cons (opStep.box hp0 [iI 12, iI A, iI B, .string Ky, .slice V.a V.n V.c, .slice L.a L.n L.c] (by kernel_rfl) (fun g3 w1 hp2 => ?_))
 refine oP 1 [1] [pP g3] fun b4 => ?_
 refine OPS.nil (thn_n (WP.seq (WP.seq (wQ { wraps := [11] } [iI 12, iI 12] [1, 11] [pP g3, bF] (.cons (l1 3 0 (iI 12) hp2.get0) (.cons (l1 3 0 (iI 12) hp2.get0) .nil)) fun b5 => ?_))))
 refine thn_n (WP.condF rfl (WP.skip (thn_n (WP.seq (wR (oQ 4 {} [iI 12, qg10] [1, 15] [pP g3, qg10] (.cons (l1 3 0 (iI 12) hp2.get0) (.cons (show InB (12) (17) from ⟨by omega, by omega⟩) (.cons (lN 56 84 qg11 (row_at hl.tab hp2.fr)) .nil))) fun b6 => ?_))))))
 refine OPS.cons (opStep.alloc hp2 qg2 (by kernel_rfl) (fun g9 w7 hp8 => ?_))
 refine OPS.cons (opStep.store0 hp8 rfl qg11 qg11 (by kernel_rfl) (fun w10 hp11 => ?_))
 refine OPS.nil (thn_n (WP.seq (WP.block ?_)))
 refine WP.cut (fun e21 w22 => ∃ (x19 : Bool), (True) ∧ Bp x19 (((¬ (B = 0)) ∧ (¬ (B = 0))) ∨ ((B = 0) ∧ (¬ (Ky = ⟨#[]⟩)) ∧ (¬ (Ky = ⟨#[]⟩))) ∨ ((B = 0) ∧ (Ky = ⟨#[]⟩) ∧ (0 < ((V.n : Nat) : Int)))) ∧ List.map e21 [1, 3, 16] = (qg3 g3 g9 x19) ∧ Hp w Non [Res.row g9 qg11 56, Res.row g3 [iI 12, iI A, iI B, .string Ky, .slice V.a V.n V.c, .slice L.a L.n L.c] 31] w22) ?_ ?_
 ·refine WP.seq (wQ { wraps := [24] } [bT] [1, 3, 16] [pP g3, pP g9, bF] (.cons (l1 4 1 (bT) hp11.get0) .nil) fun b13 => ?_)
  refine thn_n (WP.condF rfl (WP.seq (wQ { wraps := [32] } [bF, iI B] [1, 3, 16] [pP g3, pP g9, .bool (decide (¬ (B = 0)))] (.cons (l1 4 2 (bF) hp11.get0) (.cons (l1 3 2 (iI B) hp11.get1) .nil)) fun b14 => ?_)))
  refine thn_n ?_
  refine WP.test (p := ¬ (B = 0)) rfl Bp.dec (fun h15 => ?_) (fun h15 => ?_)
  ·refine WP.skip (thn_n ?_)
   exact ⟨decide (¬ (B = 0)), trivial, Bp.of Bp.dec (by first | (simp [h15]; done) | grind | (simp_all; done)), by kernel_rfl, hp11⟩
  ·replace h15 := Classical.not_not.1 h15
   refine WP.seq (wQ { wraps := [40] } [bF, .string Ky] [1, 3, 16] [pP g3, pP g9, .bool (decide (¬ (Ky = ⟨#[]⟩)))] (.cons (l1 4 3 (bF) hp11.get0) (.cons (l1 9 3 (.string Ky) hp11.get1) .nil)) fun b16 => ?_)
   refine thn_n ?_
   refine WP.test (p := ¬ (Ky = ⟨#[]⟩)) rfl Bp.dec (fun h17 => ?_) (fun h17 => ?_)
   ·refine WP.skip (thn_n ?_)
    exact ⟨decide (¬ (Ky = ⟨#[]⟩)), trivial, Bp.of Bp.dec (by first | (simp [h15, h17]; done) | grind | (simp_all; done)), by kernel_rfl, hp11⟩
   ·replace h17 := Classical.not_not.1 h17
    refine wQ { wraps := [49] } [bF, .slice V.a V.n V.c] [1, 3, 16] [pP g3, pP g9, .bool (decide (0 < ((V.n : Nat) : Int)))] (.cons (l1 4 4 (bF) hp11.get0) (.cons (l1 28 4 (.slice V.a V.n V.c) hp11.get1) .nil)) fun b18 => ?_
    refine thn_n ?_
    exact ⟨decide (0 < ((V.n : Nat) : Int)), trivial, Bp.of Bp.dec (by first | (simp [h15, h17]; done) | grind | (simp_all; done)), by kernel_rfl, hp11⟩
 rintro e21 w22 ⟨x19, hd24, hb20, hE25, hp23⟩
 obtain ⟨b26, rfl⟩ := toMk hE25
 clear hE25
 clear hd24
 refine WP.test (p := ((¬ (B = 0)) ∧ (¬ (B = 0))) ∨ ((B = 0) ∧ (¬ (Ky = ⟨#[]⟩)) ∧ (¬ (Ky = ⟨#[]⟩))) ∨ ((B = 0) ∧ (Ky = ⟨#[]⟩) ∧ (0 < ((V.n : Nat) : Int)))) rfl hb20 (fun h27 => ?_) (fun h27 => ?_)
 ·refine WP.seq (wP [2] [iI 1] fun b28 => ?_)
  refine thn_n (WP.ret ?_)
  refine blk_r ?_
  refine thn_r ?_
  refine bodyQ.of _ rfl [iI 1] ⟨rfl, trivial⟩ ?_
  exact ⟨by simp only [pack]; rw [chk_1 (show (1 : Int) ≤ 12 ∧ (12 : Int) ≤ 16 by decide) (fun q => by rw [okS_12] at q; have h_ := h27; clear hL; first | omega | grind | (simp_all; done) | (simp_all; omega))], hp23.fr⟩
 ·refine WP.seq (wQ {} [bF] [1, 3, 50] [pP g3, pP g9, bF] (.cons (l1 4 5 (bF) hp23.get0) .nil) fun b29 => ?_)
  refine thn_n (WP.condF rfl (WP.seq (wQ { wraps := [80] } [bT] [71] [bF] (.cons (l1 4 6 (bT) hp23.get0) .nil) fun b30 => ?_)))
  refine thn_n (WP.condF rfl (WP.skip (blk_n (thn_n (WP.seq (wP [2] [iI 0] fun b31 => ?_))))))
  refine thn_n (WP.ret ?_)
  refine bodyQ.of _ rfl [iI 0] ⟨rfl, trivial⟩ ?_
  exact ⟨by simp only [pack]; rw [chk_0 (by rw [okS_12]; clear hL; first | omega | grind | (simp_all; done) | (simp_all; omega))], hp23.fr⟩

theorem chk_k14 (A B : Int) (Ky : ByteArray) (V L : SlH) (v : ByteArray) (l : List Int) (w : World) (hl : LibS w) (hv : V.n = v.size) (hn : L.n = l.length) (hL : SlR w L.a L.n (l.flatMap i64c)) :
  Calls Tryd.prog 8 #[GStep.val (⟨14, A, B, Ky, V, L⟩ : GStep)] w (fun r_ w' => r_ = .returned (.int .i64 (chkI ⟨14, A, B, Ky, v, l⟩)) ∧ Fram Non w w') := by
 refine calls_of Tryd.func8 rfl 81 rfl (by simp) ?_
 have hp0 := Hp.init w
 have he0 : List.map (env0 [GStep.val (⟨14, A, B, Ky, V, L⟩ : GStep)]) [0] = [GStep.val (⟨14, A, B, Ky, V, L⟩ : GStep)] := by kernel_rfl
 obtain ⟨b0, he0⟩ := toMk he0
 rw [he0]
 clear he0
 refine WP.seq (wR ?_)
 refine OPS.cons (opStep.box hp0 [iI 14, iI A, iI B, .string Ky, .slice V.a V.n V.c, .slice L.a L.n L.c] (by kernel_rfl) (fun g3 w1 hp2 => ?_))
 refine oP 1 [1] [pP g3] fun b4 => ?_
 refine OPS.nil (thn_n (WP.seq (WP.seq (wQ { wraps := [11] } [iI 14, iI 14] [1, 11] [pP g3, bF] (.cons (l1 3 0 (iI 14) hp2.get0) (.cons (l1 3 0 (iI 14) hp2.get0) .nil)) fun b5 => ?_))))
 refine thn_n (WP.condF rfl (WP.skip (thn_n (WP.seq (wR (oQ 4 {} [iI 14, qg12] [1, 15] [pP g3, qg12] (.cons (l1 3 0 (iI 14) hp2.get0) (.cons (show InB (14) (17) from ⟨by omega, by omega⟩) (.cons (lN 56 98 qg13 (row_at hl.tab hp2.fr)) .nil))) fun b6 => ?_))))))
 refine OPS.cons (opStep.alloc hp2 qg2 (by kernel_rfl) (fun g9 w7 hp8 => ?_))
 refine OPS.cons (opStep.store0 hp8 rfl qg13 qg13 (by kernel_rfl) (fun w10 hp11 => ?_))
 refine OPS.nil (thn_n (WP.seq (WP.block ?_)))
 refine WP.cut (fun e20 w21 => ∃ (x18 : Bool), (True) ∧ Bp x18 (((¬ (Ky = ⟨#[]⟩)) ∧ (¬ (Ky = ⟨#[]⟩))) ∨ ((Ky = ⟨#[]⟩) ∧ (0 < ((V.n : Nat) : Int)))) ∧ List.map e20 [1, 3, 16] = (qg3 g3 g9 x18) ∧ Hp w Non [Res.row g9 qg13 56, Res.row g3 [iI 14, iI A, iI B, .string Ky, .slice V.a V.n V.c, .slice L.a L.n L.c] 31] w21) ?_ ?_
 ·refine WP.seq (wQ { wraps := [24] } [bT] [1, 3, 16] [pP g3, pP g9, bF] (.cons (l1 4 1 (bT) hp11.get0) .nil) fun b13 => ?_)
  refine thn_n (WP.condF rfl (WP.seq (wQ { wraps := [32] } [bT] [1, 3, 16] [pP g3, pP g9, bF] (.cons (l1 4 2 (bT) hp11.get0) .nil) fun b14 => ?_)))
  refine thn_n (WP.condF rfl (WP.seq (wQ { wraps := [40] } [bF, .string Ky] [1, 3, 16] [pP g3, pP g9, .bool (decide (¬ (Ky = ⟨#[]⟩)))] (.cons (l1 4 3 (bF) hp11.get0) (.cons (l1 9 3 (.string Ky) hp11.get1) .nil)) fun b15 => ?_)))
  refine thn_n ?_
  refine WP.test (p := ¬ (Ky = ⟨#[]⟩)) rfl Bp.dec (fun h16 => ?_) (fun h16 => ?_)
  ·refine WP.skip (thn_n ?_)
   exact ⟨decide (¬ (Ky = ⟨#[]⟩)), trivial, Bp.of Bp.dec (by first | (simp [h16]; done) | grind | (simp_all; done)), by kernel_rfl, hp11⟩
  ·replace h16 := Classical.not_not.1 h16
   refine wQ { wraps := [49] } [bF, .slice V.a V.n V.c] [1, 3, 16] [pP g3, pP g9, .bool (decide (0 < ((V.n : Nat) : Int)))] (.cons (l1 4 4 (bF) hp11.get0) (.cons (l1 28 4 (.slice V.a V.n V.c) hp11.get1) .nil)) fun b17 => ?_
   refine thn_n ?_
   exact ⟨decide (0 < ((V.n : Nat) : Int)), trivial, Bp.of Bp.dec (by first | (simp [h16]; done) | grind | (simp_all; done)), by kernel_rfl, hp11⟩
 rintro e20 w21 ⟨x18, hd23, hb19, hE24, hp22⟩
 obtain ⟨b25, rfl⟩ := toMk hE24
 clear hE24
 clear hd23
 refine WP.test (p := ((¬ (Ky = ⟨#[]⟩)) ∧ (¬ (Ky = ⟨#[]⟩))) ∨ ((Ky = ⟨#[]⟩) ∧ (0 < ((V.n : Nat) : Int)))) rfl hb19 (fun h26 => ?_) (fun h26 => ?_)
 ·refine WP.seq (wP [2] [iI 1] fun b27 => ?_)
  refine thn_n (WP.ret ?_)
  refine blk_r ?_
  refine thn_r ?_
  refine bodyQ.of _ rfl [iI 1] ⟨rfl, trivial⟩ ?_
  exact ⟨by simp only [pack]; rw [chk_1 (show (1 : Int) ≤ 14 ∧ (14 : Int) ≤ 16 by decide) (fun q => by rw [okS_14] at q; have h_ := h26; clear hL; first | omega | grind | (simp_all; done) | (simp_all; omega))], hp22.fr⟩
 ·refine WP.seq (wQ {} [bF] [1, 3, 50] [pP g3, pP g9, bF] (.cons (l1 4 5 (bF) hp22.get0) .nil) fun b28 => ?_)
  refine thn_n (WP.condF rfl (WP.seq (wQ { wraps := [80] } [bT] [71] [bF] (.cons (l1 4 6 (bT) hp22.get0) .nil) fun b29 => ?_)))
  refine thn_n (WP.condF rfl (WP.skip (blk_n (thn_n (WP.seq (wP [2] [iI 0] fun b30 => ?_))))))
  refine thn_n (WP.ret ?_)
  refine bodyQ.of _ rfl [iI 0] ⟨rfl, trivial⟩ ?_
  exact ⟨by simp only [pack]; rw [chk_0 (by rw [okS_14]; clear hL; first | omega | grind | (simp_all; done) | (simp_all; omega))], hp22.fr⟩

theorem chk_k16 (A B : Int) (Ky : ByteArray) (V L : SlH) (v : ByteArray) (l : List Int) (w : World) (hl : LibS w) (hv : V.n = v.size) (hn : L.n = l.length) (hL : SlR w L.a L.n (l.flatMap i64c)) :
  Calls Tryd.prog 8 #[GStep.val (⟨16, A, B, Ky, V, L⟩ : GStep)] w (fun r_ w' => r_ = .returned (.int .i64 (chkI ⟨16, A, B, Ky, v, l⟩)) ∧ Fram Non w w') := by
 refine calls_of Tryd.func8 rfl 81 rfl (by simp) ?_
 have hp0 := Hp.init w
 have he0 : List.map (env0 [GStep.val (⟨16, A, B, Ky, V, L⟩ : GStep)]) [0] = [GStep.val (⟨16, A, B, Ky, V, L⟩ : GStep)] := by kernel_rfl
 obtain ⟨b0, he0⟩ := toMk he0
 rw [he0]
 clear he0
 refine WP.seq (wR ?_)
 refine OPS.cons (opStep.box hp0 [iI 16, iI A, iI B, .string Ky, .slice V.a V.n V.c, .slice L.a L.n L.c] (by kernel_rfl) (fun g3 w1 hp2 => ?_))
 refine oP 1 [1] [pP g3] fun b4 => ?_
 refine OPS.nil (thn_n (WP.seq (WP.seq (wQ { wraps := [11] } [iI 16, iI 16] [1, 11] [pP g3, bF] (.cons (l1 3 0 (iI 16) hp2.get0) (.cons (l1 3 0 (iI 16) hp2.get0) .nil)) fun b5 => ?_))))
 refine thn_n (WP.condF rfl (WP.skip (thn_n (WP.seq (wR (oQ 4 {} [iI 16, qg14] [1, 15] [pP g3, qg14] (.cons (l1 3 0 (iI 16) hp2.get0) (.cons (show InB (16) (17) from ⟨by omega, by omega⟩) (.cons (lN 56 112 qg15 (row_at hl.tab hp2.fr)) .nil))) fun b6 => ?_))))))
 refine OPS.cons (opStep.alloc hp2 qg2 (by kernel_rfl) (fun g9 w7 hp8 => ?_))
 refine OPS.cons (opStep.store0 hp8 rfl qg15 qg15 (by kernel_rfl) (fun w10 hp11 => ?_))
 refine OPS.nil (thn_n (WP.seq (WP.block ?_)))
 refine WP.cut (fun e21 w22 => ∃ (x19 : Bool), (True) ∧ Bp x19 (((¬ (A = 0)) ∧ (¬ (A = 0))) ∨ ((A = 0) ∧ (¬ (Ky = ⟨#[]⟩)) ∧ (¬ (Ky = ⟨#[]⟩))) ∨ ((A = 0) ∧ (Ky = ⟨#[]⟩) ∧ (0 < ((V.n : Nat) : Int)))) ∧ List.map e21 [1, 3, 16] = (qg3 g3 g9 x19) ∧ Hp w Non [Res.row g9 qg15 56, Res.row g3 [iI 16, iI A, iI B, .string Ky, .slice V.a V.n V.c, .slice L.a L.n L.c] 31] w22) ?_ ?_
 ·refine WP.seq (wQ { wraps := [24] } [bF, iI A] [1, 3, 16] [pP g3, pP g9, .bool (decide (¬ (A = 0)))] (.cons (l1 4 1 (bF) hp11.get0) (.cons (l1 3 1 (iI A) hp11.get1) .nil)) fun b13 => ?_)
  refine thn_n ?_
  refine WP.test (p := ¬ (A = 0)) rfl Bp.dec (fun h14 => ?_) (fun h14 => ?_)
  ·refine WP.skip (thn_n ?_)
   exact ⟨decide (¬ (A = 0)), trivial, Bp.of Bp.dec (by first | (simp [h14]; done) | grind | (simp_all; done)), by kernel_rfl, hp11⟩
  ·replace h14 := Classical.not_not.1 h14
   refine WP.seq (wQ { wraps := [32] } [bT] [1, 3, 16] [pP g3, pP g9, bF] (.cons (l1 4 2 (bT) hp11.get0) .nil) fun b15 => ?_)
   refine thn_n (WP.condF rfl (WP.seq (wQ { wraps := [40] } [bF, .string Ky] [1, 3, 16] [pP g3, pP g9, .bool (decide (¬ (Ky = ⟨#[]⟩)))] (.cons (l1 4 3 (bF) hp11.get0) (.cons (l1 9 3 (.string Ky) hp11.get1) .nil)) fun b16 => ?_)))
   refine thn_n ?_
   refine WP.test (p := ¬ (Ky = ⟨#[]⟩)) rfl Bp.dec (fun h17 => ?_) (fun h17 => ?_)
   ·refine WP.skip (thn_n ?_)
    exact ⟨decide (¬ (Ky = ⟨#[]⟩)), trivial, Bp.of Bp.dec (by first | (simp [h14, h17]; done) | grind | (simp_all; done)), by kernel_rfl, hp11⟩
   ·replace h17 := Classical.not_not.1 h17
    refine wQ { wraps := [49] } [bF, .slice V.a V.n V.c] [1, 3, 16] [pP g3, pP g9, .bool (decide (0 < ((V.n : Nat) : Int)))] (.cons (l1 4 4 (bF) hp11.get0) (.cons (l1 28 4 (.slice V.a V.n V.c) hp11.get1) .nil)) fun b18 => ?_
    refine thn_n ?_
    exact ⟨decide (0 < ((V.n : Nat) : Int)), trivial, Bp.of Bp.dec (by first | (simp [h14, h17]; done) | grind | (simp_all; done)), by kernel_rfl, hp11⟩
 rintro e21 w22 ⟨x19, hd24, hb20, hE25, hp23⟩
 obtain ⟨b26, rfl⟩ := toMk hE25
 clear hE25
 clear hd24
 refine WP.test (p := ((¬ (A = 0)) ∧ (¬ (A = 0))) ∨ ((A = 0) ∧ (¬ (Ky = ⟨#[]⟩)) ∧ (¬ (Ky = ⟨#[]⟩))) ∨ ((A = 0) ∧ (Ky = ⟨#[]⟩) ∧ (0 < ((V.n : Nat) : Int)))) rfl hb20 (fun h27 => ?_) (fun h27 => ?_)
 ·refine WP.seq (wP [2] [iI 1] fun b28 => ?_)
  refine thn_n (WP.ret ?_)
  refine blk_r ?_
  refine thn_r ?_
  refine bodyQ.of _ rfl [iI 1] ⟨rfl, trivial⟩ ?_
  exact ⟨by simp only [pack]; rw [chk_1 (show (1 : Int) ≤ 16 ∧ (16 : Int) ≤ 16 by decide) (fun q => by rw [okS_16] at q; have h_ := h27; clear hL; first | omega | grind | (simp_all; done) | (simp_all; omega))], hp23.fr⟩
 ·refine WP.seq (wQ {} [bF] [1, 3, 50] [pP g3, pP g9, bF] (.cons (l1 4 5 (bF) hp23.get0) .nil) fun b29 => ?_)
  refine thn_n (WP.condF rfl (WP.seq (wQ { wraps := [80] } [bT] [71] [bF] (.cons (l1 4 6 (bT) hp23.get0) .nil) fun b30 => ?_)))
  refine thn_n (WP.condF rfl (WP.skip (blk_n (thn_n (WP.seq (wP [2] [iI 0] fun b31 => ?_))))))
  refine thn_n (WP.ret ?_)
  refine bodyQ.of _ rfl [iI 0] ⟨rfl, trivial⟩ ?_
  exact ⟨by simp only [pack]; rw [chk_0 (by rw [okS_16]; clear hL; first | omega | grind | (simp_all; done) | (simp_all; omega))], hp23.fr⟩

theorem chk_kk (k : Int) (hpa : PA k) (A B : Int) (Ky : ByteArray) (V L : SlH) (v : ByteArray) (l : List Int) (w : World) (hl : LibS w) (hv : V.n = v.size) (hn : L.n = l.length) (hL : SlR w L.a L.n (l.flatMap i64c)) :
  Calls Tryd.prog 8 #[GStep.val (⟨k, A, B, Ky, V, L⟩ : GStep)] w (fun r_ w' => r_ = .returned (.int .i64 (chkI ⟨k, A, B, Ky, v, l⟩)) ∧ Fram Non w w') := by
 have hpr := hpa.rng
 refine calls_of Tryd.func8 rfl 81 rfl (by simp) ?_
 have hp0 := Hp.init w
 have he0 : List.map (env0 [GStep.val (⟨k, A, B, Ky, V, L⟩ : GStep)]) [0] = [GStep.val (⟨k, A, B, Ky, V, L⟩ : GStep)] := by kernel_rfl
 obtain ⟨b0, he0⟩ := toMk he0
 rw [he0]
 clear he0
 refine WP.seq (wR ?_)
 refine OPS.cons (opStep.box hp0 [iI k, iI A, iI B, .string Ky, .slice V.a V.n V.c, .slice L.a L.n L.c] (by kernel_rfl) (fun g3 w1 hp2 => ?_))
 refine oP 1 [1] [pP g3] fun b4 => ?_
 refine OPS.nil (thn_n (WP.seq ?_))
 refine WP.cut (fun e14 w15 => ∃ (x12 : Bool), (True) ∧ Bp x12 (((k < 1)) ∨ ((¬ (k < 1)) ∧ (16 < k))) ∧ List.map e14 [1, 11] = [pP g3, .bool x12] ∧ Hp w Non [Res.row g3 [iI k, iI A, iI B, .string Ky, .slice V.a V.n V.c, .slice L.a L.n L.c] 31] w15) ?_ ?_
 ·refine wR (oQ 4 {} [iI k] [1, 7] [pP g3, .bool (decide (k < 1))] (.cons (l1 3 0 (iI k) hp2.get0) .nil) fun b6 => ?_)
  by_cases h7 : k < 1
  ·refine oP 0 [1, 7] [pP g3, .bool (decide (k < 1))] fun b8 => ?_
   refine OPS.re [pP g3, bT] (by rw [show (decide (k < 1)) = true from Bp.dec.tt h7]) ?_
   refine oQ 4 { wraps := [11] } [] [1, 11] [pP g3, bT] .nil fun b9 => ?_
   refine OPS.nil (thn_n ?_)
   exact ⟨true, trivial, Bp.of Bp.t (by first | (simp [h7]; done) | grind | (simp_all; done)), by kernel_rfl, hp2⟩
  ·refine oP 0 [1, 7] [pP g3, .bool (decide (k < 1))] fun b10 => ?_
   refine OPS.re [pP g3, bF] (by rw [show (decide (k < 1)) = false from Bp.dec.ff h7]) ?_
   refine oQ 4 { wraps := [11] } [iI k] [1, 11] [pP g3, .bool (decide (16 < k))] (.cons (l1 3 0 (iI k) hp2.get0) .nil) fun b11 => ?_
   refine OPS.nil (thn_n ?_)
   exact ⟨decide (16 < k), trivial, Bp.of Bp.dec (by first | (simp [h7]; done) | grind | (simp_all; done)), by kernel_rfl, hp2⟩
 rintro e14 w15 ⟨x12, hd17, hb13, hE18, hp16⟩
 obtain ⟨b19, rfl⟩ := toMk hE18
 clear hE18
 clear hd17
 refine WP.test (p := ((k < 1)) ∨ ((¬ (k < 1)) ∧ (16 < k))) rfl hb13 (fun h20 => ?_) (fun h20 => ?_)
 ·refine WP.seq (wP [2] [iI 32] fun b21 => ?_)
  refine thn_n (WP.ret (thn_r ?_))
  refine bodyQ.of _ rfl [iI 32] ⟨rfl, trivial⟩ ?_
  exfalso
  have hr_ := hpa.rng
  have h_ := h20
  first | omega | grind
 ·refine WP.skip (thn_n (WP.seq (wR (oQ 4 {} [iI k, .agg #[.string (kWord k), bT, bF, bF, bF, bF, bF]] [1, 15] [pP g3, .agg #[.string (kWord k), bT, bF, bF, bF, bF, bF]] (.cons (l1 3 0 (iI k) hp16.get0) (.cons (show InB (k) (17) from ⟨by omega, by omega⟩) (.cons (fm_a hpa (hl.fram hp16.fr)) .nil))) fun b22 => ?_))))
  refine OPS.cons (opStep.alloc hp16 qg2 (by kernel_rfl) (fun g25 w23 hp24 => ?_))
  refine OPS.cons (opStep.store0 hp24 rfl (qg16 k) (qg16 k) (by kernel_rfl) (fun w26 hp27 => ?_))
  refine OPS.nil (thn_n (WP.seq (WP.block ?_)))
  refine WP.cut (fun e37 w38 => ∃ (x35 : Bool), (True) ∧ Bp x35 (((¬ (B = 0)) ∧ (¬ (B = 0))) ∨ ((B = 0) ∧ (¬ (Ky = ⟨#[]⟩)) ∧ (¬ (Ky = ⟨#[]⟩))) ∨ ((B = 0) ∧ (Ky = ⟨#[]⟩) ∧ (0 < ((V.n : Nat) : Int)))) ∧ List.map e37 [1, 3, 16] = (qg3 g3 g25 x35) ∧ Hp w Non [Res.row g25 (qg16 k) 56, Res.row g3 [iI k, iI A, iI B, .string Ky, .slice V.a V.n V.c, .slice L.a L.n L.c] 31] w38) ?_ ?_
  ·refine WP.seq (wQ { wraps := [24] } [bT] [1, 3, 16] [pP g3, pP g25, bF] (.cons (l1 4 1 (bT) hp27.get0) .nil) fun b29 => ?_)
   refine thn_n (WP.condF rfl (WP.seq (wQ { wraps := [32] } [bF, iI B] [1, 3, 16] [pP g3, pP g25, .bool (decide (¬ (B = 0)))] (.cons (l1 4 2 (bF) hp27.get0) (.cons (l1 3 2 (iI B) hp27.get1) .nil)) fun b30 => ?_)))
   refine thn_n ?_
   refine WP.test (p := ¬ (B = 0)) rfl Bp.dec (fun h31 => ?_) (fun h31 => ?_)
   ·refine WP.skip (thn_n ?_)
    exact ⟨decide (¬ (B = 0)), trivial, Bp.of Bp.dec (by first | (simp [h31]; done) | grind | (simp_all; done)), by kernel_rfl, hp27⟩
   ·replace h31 := Classical.not_not.1 h31
    refine WP.seq (wQ { wraps := [40] } [bF, .string Ky] [1, 3, 16] [pP g3, pP g25, .bool (decide (¬ (Ky = ⟨#[]⟩)))] (.cons (l1 4 3 (bF) hp27.get0) (.cons (l1 9 3 (.string Ky) hp27.get1) .nil)) fun b32 => ?_)
    refine thn_n ?_
    refine WP.test (p := ¬ (Ky = ⟨#[]⟩)) rfl Bp.dec (fun h33 => ?_) (fun h33 => ?_)
    ·refine WP.skip (thn_n ?_)
     exact ⟨decide (¬ (Ky = ⟨#[]⟩)), trivial, Bp.of Bp.dec (by first | (simp [h31, h33]; done) | grind | (simp_all; done)), by kernel_rfl, hp27⟩
    ·replace h33 := Classical.not_not.1 h33
     refine wQ { wraps := [49] } [bF, .slice V.a V.n V.c] [1, 3, 16] [pP g3, pP g25, .bool (decide (0 < ((V.n : Nat) : Int)))] (.cons (l1 4 4 (bF) hp27.get0) (.cons (l1 28 4 (.slice V.a V.n V.c) hp27.get1) .nil)) fun b34 => ?_
     refine thn_n ?_
     exact ⟨decide (0 < ((V.n : Nat) : Int)), trivial, Bp.of Bp.dec (by first | (simp [h31, h33]; done) | grind | (simp_all; done)), by kernel_rfl, hp27⟩
  rintro e37 w38 ⟨x35, hd40, hb36, hE41, hp39⟩
  obtain ⟨b42, rfl⟩ := toMk hE41
  clear hE41
  clear hd40
  refine WP.test (p := ((¬ (B = 0)) ∧ (¬ (B = 0))) ∨ ((B = 0) ∧ (¬ (Ky = ⟨#[]⟩)) ∧ (¬ (Ky = ⟨#[]⟩))) ∨ ((B = 0) ∧ (Ky = ⟨#[]⟩) ∧ (0 < ((V.n : Nat) : Int)))) rfl hb36 (fun h43 => ?_) (fun h43 => ?_)
  ·refine WP.seq (wP [2] [iI 1] fun b44 => ?_)
   refine thn_n (WP.ret ?_)
   refine blk_r ?_
   refine thn_r ?_
   refine bodyQ.of _ rfl [iI 1] ⟨rfl, trivial⟩ ?_
   exact ⟨by simp only [pack]; rw [chk_1 hpa.rng (fun q => by rw [okS_k hpa] at q; have h_ := h43; clear hL; first | omega | grind | (simp_all; done) | (simp_all; omega))], hp39.fr⟩
  ·refine WP.seq (wQ {} [bF] [1, 3, 50] [pP g3, pP g25, bF] (.cons (l1 4 5 (bF) hp39.get0) .nil) fun b45 => ?_)
   refine thn_n (WP.condF rfl (WP.seq (wQ { wraps := [80] } [bF, .slice L.a L.n L.c] [71] [.bool (decide (0 < ((L.n : Nat) : Int)))] (.cons (l1 4 6 (bF) hp39.get0) (.cons (l1 29 5 (.slice L.a L.n L.c) hp39.get1) .nil)) fun b46 => ?_)))
   refine thn_n ?_
   refine WP.test (p := 0 < ((L.n : Nat) : Int)) rfl Bp.dec (fun h47 => ?_) (fun h47 => ?_)
   ·refine WP.seq (wP [2] [iI 1] fun b48 => ?_)
    refine thn_n (WP.ret ?_)
    refine blk_r ?_
    refine thn_r ?_
    refine bodyQ.of _ rfl [iI 1] ⟨rfl, trivial⟩ ?_
    exact ⟨by simp only [pack]; rw [chk_1 hpa.rng (fun q => by rw [okS_k hpa] at q; have h_ := h47; clear hL; first | omega | grind | (simp_all; done) | (simp_all; omega))], hp39.fr⟩
   ·refine WP.skip (blk_n (thn_n (WP.seq (wP [2] [iI 0] fun b49 => ?_))))
    refine thn_n (WP.ret ?_)
    refine bodyQ.of _ rfl [iI 0] ⟨rfl, trivial⟩ ?_
    exact ⟨by simp only [pack]; rw [chk_0 (by rw [okS_k hpa]; clear hL; first | omega | grind | (simp_all; done) | (simp_all; omega))], hp39.fr⟩

theorem chk_kno (K : Int) (hk : ¬ (1 ≤ K ∧ K ≤ 16)) (A B : Int) (Ky : ByteArray) (V L : SlH) (v : ByteArray) (l : List Int) (w : World) (hl : LibS w) (hv : V.n = v.size) (hn : L.n = l.length) (hL : SlR w L.a L.n (l.flatMap i64c)) :
  Calls Tryd.prog 8 #[GStep.val (⟨K, A, B, Ky, V, L⟩ : GStep)] w (fun r_ w' => r_ = .returned (.int .i64 (chkI ⟨K, A, B, Ky, v, l⟩)) ∧ Fram Non w w') := by
 refine calls_of Tryd.func8 rfl 81 rfl (by simp) ?_
 have hp0 := Hp.init w
 have he0 : List.map (env0 [GStep.val (⟨K, A, B, Ky, V, L⟩ : GStep)]) [0] = [GStep.val (⟨K, A, B, Ky, V, L⟩ : GStep)] := by kernel_rfl
 obtain ⟨b0, he0⟩ := toMk he0
 rw [he0]
 clear he0
 refine WP.seq (wR ?_)
 refine OPS.cons (opStep.box hp0 [iI K, iI A, iI B, .string Ky, .slice V.a V.n V.c, .slice L.a L.n L.c] (by kernel_rfl) (fun g3 w1 hp2 => ?_))
 refine oP 1 [1] [pP g3] fun b4 => ?_
 refine OPS.nil (thn_n (WP.seq ?_))
 refine WP.cut (fun e14 w15 => ∃ (x12 : Bool), (True) ∧ Bp x12 (((K < 1)) ∨ ((¬ (K < 1)) ∧ (16 < K))) ∧ List.map e14 [1, 11] = [pP g3, .bool x12] ∧ Hp w Non [Res.row g3 [iI K, iI A, iI B, .string Ky, .slice V.a V.n V.c, .slice L.a L.n L.c] 31] w15) ?_ ?_
 ·refine wR (oQ 4 {} [iI K] [1, 7] [pP g3, .bool (decide (K < 1))] (.cons (l1 3 0 (iI K) hp2.get0) .nil) fun b6 => ?_)
  by_cases h7 : K < 1
  ·refine oP 0 [1, 7] [pP g3, .bool (decide (K < 1))] fun b8 => ?_
   refine OPS.re [pP g3, bT] (by rw [show (decide (K < 1)) = true from Bp.dec.tt h7]) ?_
   refine oQ 4 { wraps := [11] } [] [1, 11] [pP g3, bT] .nil fun b9 => ?_
   refine OPS.nil (thn_n ?_)
   exact ⟨true, trivial, Bp.of Bp.t (by first | (simp [h7]; done) | grind | (simp_all; done)), by kernel_rfl, hp2⟩
  ·refine oP 0 [1, 7] [pP g3, .bool (decide (K < 1))] fun b10 => ?_
   refine OPS.re [pP g3, bF] (by rw [show (decide (K < 1)) = false from Bp.dec.ff h7]) ?_
   refine oQ 4 { wraps := [11] } [iI K] [1, 11] [pP g3, .bool (decide (16 < K))] (.cons (l1 3 0 (iI K) hp2.get0) .nil) fun b11 => ?_
   refine OPS.nil (thn_n ?_)
   exact ⟨decide (16 < K), trivial, Bp.of Bp.dec (by first | (simp [h7]; done) | grind | (simp_all; done)), by kernel_rfl, hp2⟩
 rintro e14 w15 ⟨x12, hd17, hb13, hE18, hp16⟩
 obtain ⟨b19, rfl⟩ := toMk hE18
 clear hE18
 clear hd17
 refine WP.test (p := ((K < 1)) ∨ ((¬ (K < 1)) ∧ (16 < K))) rfl hb13 (fun h20 => ?_) (fun h20 => ?_)
 ·refine WP.seq (wP [2] [iI 32] fun b21 => ?_)
  refine thn_n (WP.ret (thn_r ?_))
  refine bodyQ.of _ rfl [iI 32] ⟨rfl, trivial⟩ ?_
  exact ⟨by simp only [pack]; rw [chk_32 hk], hp16.fr⟩
 ·refine WP.skip (thn_n (WP.seq ?_))
  exfalso
  first | omega | grind

theorem sc_Check (s : GStep) (x : StepP) (w : World) (hl : LibS w) (hx : StR w Tr s x) : Calls Tryd.prog 8 #[GStep.val s] w (fun r_ w' => r_ = .returned (.int .i64 (chkI x)) ∧ Fram Non w w') := by
  obtain ⟨K, A, B, Ky, V, L⟩ := s
  obtain ⟨K', A', B', Ky', v, l⟩ := x
  obtain ⟨h1, h2, h3, h4, _, hv, _, _, h9, h10⟩ := hx
  simp only at h1 h2 h3 h4 hv
  subst h1 h2 h3 h4
  by_cases hk : 1 ≤ K ∧ K ≤ 16
  · rcases kcases hk with rfl | rfl | rfl | rfl | rfl | rfl | rfl | rfl | rfl | rfl | rfl | rfl | rfl | rfl | rfl | rfl
    · exact chk_k1 A B Ky V L v l w hl hv h9 h10
    · exact chk_k2 A B Ky V L v l w hl hv h9 h10
    · exact chk_kk 3 (by unfold PA; decide) A B Ky V L v l w hl hv h9 h10
    · exact chk_kk 4 (by unfold PA; decide) A B Ky V L v l w hl hv h9 h10
    · exact chk_kk 5 (by unfold PA; decide) A B Ky V L v l w hl hv h9 h10
    · exact chk_kk 6 (by unfold PA; decide) A B Ky V L v l w hl hv h9 h10
    · exact chk_kk 7 (by unfold PA; decide) A B Ky V L v l w hl hv h9 h10
    · exact chk_kk 8 (by unfold PA; decide) A B Ky V L v l w hl hv h9 h10
    · exact chk_k9 A B Ky V L v l w hl hv h9 h10
    · exact chk_k10 A B Ky V L v l w hl hv h9 h10
    · exact chk_kk 11 (by unfold PA; decide) A B Ky V L v l w hl hv h9 h10
    · exact chk_k12 A B Ky V L v l w hl hv h9 h10
    · exact chk_kk 13 (by unfold PA; decide) A B Ky V L v l w hl hv h9 h10
    · exact chk_k14 A B Ky V L v l w hl hv h9 h10
    · exact chk_kk 15 (by unfold PA; decide) A B Ky V L v l w hl hv h9 h10
    · exact chk_k16 A B Ky V L v l w hl hv h9 h10
  · exact chk_kno K hk A B Ky V L v l w hl hv h9 h10
end Go.Proofs.YtbpedjefoajegaaDoor.K
namespace Go.Proofs.YtbpedjefoajegaaDoor.K
open Go Go.Proofs Go.RowKit
set_option linter.unusedVariables false
set_option linter.unusedSimpArgs false
set_option maxRecDepth 20000
set_option maxHeartbeats 4000000

theorem byte_of (s : ByteArray) (k : Int) : ∃ n : Nat, n < 256 ∧ byteAt s k = n := ⟨_, ((s.data.toList[k.toNat]?).getD 0).toNat_lt, rfl⟩
theorem nib_hi (s : ByteArray) (k : Int) : (byteAt s k).fdiv (2 ^ (min (4 : Int).toNat IntKind.u8.bits)) = byteAt s k / 16 := by
  obtain ⟨n, hn, e⟩ := byte_of s k
  rw [e, show ((2 : Int) ^ (min (4 : Int).toNat IntKind.u8.bits)) = 16 from rfl, Int.fdiv_eq_ediv_of_nonneg _ (by decide)]
theorem nib_lo (s : ByteArray) (k : Int) : IntKind.u8.wrap (BitVec.ofInt IntKind.u8.bits (byteAt s k) &&& BitVec.ofInt IntKind.u8.bits 15).toNat = byteAt s k % 16 := by
  obtain ⟨n, hn, e⟩ := byte_of s k
  rw [e]
  exact (by decide +kernel : ∀ n : Nat, n < 256 → IntKind.u8.wrap (BitVec.ofInt IntKind.u8.bits (n : Int) &&& BitVec.ofInt IntKind.u8.bits 15).toNat = (n : Int) % 16) n hn
theorem dig_at {n : Int} (h : 0 ≤ n ∧ n < 16) : byteAt ⟨#[48, 49, 50, 51, 52, 53, 54, 55, 56, 57, 97, 98, 99, 100, 101, 102]⟩ n = ((hexD n.toNat).toNat : Int) := by
  obtain ⟨m, rfl⟩ : ∃ m : Nat, n = m := ⟨n.toNat, by omega⟩
  exact (by decide +kernel : ∀ m : Nat, m < 16 → byteAt ⟨#[48, 49, 50, 51, 52, 53, 54, 55, 56, 57, 97, 98, 99, 100, 101, 102]⟩ (m : Int) = ((hexD (m : Int).toNat).toNat : Int)) m (by omega)
theorem strOf_app (a b : List Int) : (strOf (a ++ b)).data.toList = (strOf a).data.toList ++ (strOf b).data.toList := by
  have key : ∀ l : List Int, strOf l = ⟨(l.map fun n => UInt8.ofNat n.toNat).toArray⟩ := fun l => by
    have h : ∀ (l : List Int) (m : List UInt8), l.foldl (fun r n => r.push (UInt8.ofNat n.toNat)) (⟨m.toArray⟩ : ByteArray) = ⟨(m ++ l.map fun n => UInt8.ofNat n.toNat).toArray⟩ := by
      intro l
      induction l with
      | nil => intro m; simp
      | cons y l ih =>
        intro m
        rw [List.foldl_cons, show (⟨m.toArray⟩ : ByteArray).push (UInt8.ofNat y.toNat) = ⟨(m ++ [UInt8.ofNat y.toNat]).toArray⟩ from by simp [ByteArray.push], ih]
        simp
    have := h l []
    rw [List.nil_append] at this
    exact this
  rw [key, key, key]; simp
theorem u8_back (c : UInt8) : UInt8.ofNat ((c.toNat : Int)).toNat = c := by
  rw [show ((c.toNat : Int)).toNat = c.toNat from rfl]; simp
theorem byte_get {s : ByteArray} {k : Nat} (h : k < s.data.toList.length) : byteAt s ((k : Nat) : Int) = (s.data.toList[k].toNat : Int) := by
  unfold byteAt
  rw [show ((k : Nat) : Int).toNat = k from rfl, List.getElem?_eq_getElem h]; rfl
theorem hex_step {b : ByteArray} {xs : List Int} {k : Nat} {p q : Int} (hk : k < b.size) (h : (strOf xs).data.toList = hexL (b.data.toList.take k)) (hp : p = byteAt b ((k : Nat) : Int) / 16) (hq : q = byteAt b ((k : Nat) : Int) % 16) :
    (strOf (xs ++ [byteAt ⟨#[48, 49, 50, 51, 52, 53, 54, 55, 56, 57, 97, 98, 99, 100, 101, 102]⟩ p, byteAt ⟨#[48, 49, 50, 51, 52, 53, 54, 55, 56, 57, 97, 98, 99, 100, 101, 102]⟩ q])).data.toList = hexL (b.data.toList.take (k + 1)) := by
  have hk' : k < b.data.toList.length := by rw [← size_list]; exact hk
  have e := byte_get hk'
  have hlt := b.data.toList[k].toNat_lt
  rw [strOf_app, h, List.take_succ_eq_append_getElem hk', dig_at (by omega), dig_at (by omega)]
  unfold hexL
  rw [List.flatMap_append]
  congr 1
  rw [List.flatMap_cons, List.flatMap_nil, List.append_nil, hp, hq, e]
  show [UInt8.ofNat _, UInt8.ofNat _] = _
  rw [u8_back, u8_back, show ((b.data.toList[k].toNat : Int) / 16).toNat = b.data.toList[k].toNat / 16 from by omega, show ((b.data.toList[k].toNat : Int) % 16).toNat = b.data.toList[k].toNat % 16 from by omega]
theorem sc_written (b : ByteArray) (hb : b.size ≤ 1099511627776) (w : World) :
    Calls Tryd.prog 29 #[.string b] w (fun r_ w' => r_ = .returned (.string (hexT b)) ∧ Fram Non w w') := by
  refine calls_of Tryd.func29 rfl 28 rfl (by simp) ?_
  have hp0 := Hp.init w
  have he0 : List.map (env0 [.string b]) [0] = [.string b] := by kernel_rfl
  obtain ⟨b0, he0⟩ := toMk he0
  rw [he0]
  clear he0
  refine WP.seq ?_
  refine WP.pure {} [] [0] [.string b] .nil (by kernel_rfl) (fun b1 => ?_)
  refine thn_n ?_
  refine WP.seq ?_
  refine WP.seq ?_
  refine WP.pure {} [] [0, 6] [.string b, .bool (decide (b = ⟨#[]⟩))] .nil (by kernel_rfl) (fun b2 => ?_)
  refine thn_n ?_
  refine WP.test (p := b = ⟨#[]⟩) rfl Bp.dec (fun h3 => ?_) (fun h3 => ?_)
  · refine WP.seq ?_
    refine WP.pure {} [] [2] [.string ⟨#[45]⟩] .nil (by kernel_rfl) (fun b4 => ?_)
    refine thn_n ?_
    refine WP.ret ?_
    refine thn_r ?_
    refine bodyQ.of _ rfl [.string ⟨#[45]⟩] ⟨rfl, trivial⟩ ?_
    exact ⟨by simp only [pack]; unfold hexT; rw [if_pos (by rw [h3])], hp0.fr⟩
  · refine WP.skip ?_
    refine thn_n ?_
    refine WP.seq ?_
    refine WP.pure {} [] [0, 3] [.string b, .slice none 0 0] .nil (by kernel_rfl) (fun b5 => ?_)
    refine thn_n ?_
    refine WP.seq ?_
    refine WP.seq ?_
    refine WP.pure {} [] [0, 3, 8, 9] [.string b, .slice none 0 0, .int .i64 (b.size : Int), .int .i64 0] .nil (by kernel_rfl) (fun b6 => ?_)
    refine thn_n ?_
    refine WP.block ?_
    have hp7 := (show Hp w Non [Res.own 5 1 (.slice none 0 0) 0 (List.flatMap u8c ([] : List Int))] w from hp0.nilOwn 5 1)
    refine WP.loop (fun mz_ e8 w9 => ∃ (k : Nat) (xs : List Int) (ao : Option Addr) (no : Nat) (co : Nat), mz_ = b.size - k ∧ (k ≤ b.size ∧ (strOf xs).data.toList = hexL (b.data.toList.take k)) ∧ List.map e8 [0, 3, 8, 9] = [.string b, .slice ao no co, .int .i64 (b.size : Int), .int .i64 (k : Int)] ∧ Hp w Non [Res.own 5 1 (.slice ao no co) no (List.flatMap u8c xs)] w9) (b.size - (0)) ⟨0, [], none, 0, 0, rfl, ⟨by omega, rfl⟩, by kernel_rfl, hp7⟩ ?_
    rintro _ e8 w9 ⟨k, xs, ao, no, co, rfl, hI11, hE12, hp10⟩
    obtain ⟨b13, rfl⟩ := toMk hE12
    clear hE12
    obtain ⟨pa, pb⟩ := hI11
    have pe := own_flat (sz := 1) (fun _ => rfl) (by decide) hp10.get0
    have pl : xs.length = 2 * k := by have := congrArg List.length pb; rw [hexL_len, List.length_take, ← size_list, ← size_list, strOf_len] at this; omega
    have nh := nib_hi b (k : Int)
    have nl := nib_lo b (k : Int)
    have nb := byte_of b (k : Int)
    obtain ⟨nb1, nb2, nb3⟩ := nb
    have hds : (⟨#[48, 49, 50, 51, 52, 53, 54, 55, 56, 57, 97, 98, 99, 100, 101, 102]⟩ : ByteArray).size = 16 := rfl
    refine WP.seq ?_
    refine WP.pure {} [] [0, 3, 8, 9, 10] [.string b, .slice ao no co, .int .i64 (b.size : Int), .int .i64 (k : Int), .bool (decide ((k : Int) < (b.size : Int)))] .nil (by kernel_rfl) (fun b14 => ?_)
    refine thn_n ?_
    refine WP.seq ?_
    refine WP.test (p := (k : Int) < (b.size : Int)) rfl Bp.dec (fun h15 => ?_) (fun h15 => ?_)
    · refine WP.skip ?_
      refine thn_n ?_
      refine WP.seq ?_
      refine WP.block ?_
      refine WP.seq ?_
      refine WP.pure {} [] [0, 3, 4, 8, 9] [.string b, .slice ao no co, .int .i64 (k : Int), .int .i64 (b.size : Int), .int .i64 (k : Int)] .nil (by kernel_rfl) (fun b16 => ?_)
      refine thn_n ?_
      have hp17 := hp10.drew
      refine WP.held (fun w18 => True) [] [(0, true), (1, true), (2, true), (3, true), (4, true), (5, true), (6, true), (7, true), (8, true), (9, true), (10, true), (11, false), (12, false), (13, true)] (np_blk (np_thn (np_thn (np_blk (np_thn np_body))))) (by kernel_rfl) ?_
      refine HOPS.take 11 {} [] [0, 8, 9, 12, 17, 22] [.string b, .int .i64 (b.size : Int), .int .i64 (k : Int), .slice ao no co, .int .u8 (byteAt ⟨#[48, 49, 50, 51, 52, 53, 54, 55, 56, 57, 97, 98, 99, 100, 101, 102]⟩ ((byteAt b ((k : Int))).fdiv (2 ^ (min (4 : Int).toNat IntKind.u8.bits)))), .int .u8 (byteAt ⟨#[48, 49, 50, 51, 52, 53, 54, 55, 56, 57, 97, 98, 99, 100, 101, 102]⟩ (IntKind.u8.wrap (BitVec.ofInt IntKind.u8.bits (byteAt b ((k : Int))) &&& BitVec.ofInt IntKind.u8.bits 15).toNat))] (by kernel_rfl) trivial (fun w19 hS20 => QB.mk (.cons (show InB ((k : Int)) b.size from ⟨by omega, by omega⟩) (.cons (show (0 : Int) ≤ 4 from by omega) (.cons (show InB ((byteAt b ((k : Int))).fdiv (2 ^ (min (4 : Int).toNat IntKind.u8.bits))) (⟨#[48, 49, 50, 51, 52, 53, 54, 55, 56, 57, 97, 98, 99, 100, 101, 102]⟩ : ByteArray).size from ⟨by omega, by omega⟩) (.cons (show InB ((k : Int)) b.size from ⟨by omega, by omega⟩) (.cons (show InB (IntKind.u8.wrap (BitVec.ofInt IntKind.u8.bits (byteAt b ((k : Int))) &&& BitVec.ofInt IntKind.u8.bits 15).toNat) (⟨#[48, 49, 50, 51, 52, 53, 54, 55, 56, 57, 97, 98, 99, 100, 101, 102]⟩ : ByteArray).size from ⟨by omega, by omega⟩) .nil))))) (by kernel_rfl)) (fun b21 => ?_)
      refine HOPS.eff _ rfl (opStep.buildSlice (E := 5) hp17 [.int .u8 (byteAt ⟨#[48, 49, 50, 51, 52, 53, 54, 55, 56, 57, 97, 98, 99, 100, 101, 102]⟩ ((byteAt b ((k : Int))).fdiv (2 ^ (min (4 : Int).toNat IntKind.u8.bits)))), .int .u8 (byteAt ⟨#[48, 49, 50, 51, 52, 53, 54, 55, 56, 57, 97, 98, 99, 100, 101, 102]⟩ (IntKind.u8.wrap (BitVec.ofInt IntKind.u8.bits (byteAt b ((k : Int))) &&& BitVec.ofInt IntKind.u8.bits 15).toNat))] (by kernel_rfl) (fun g24 w22 hp23 => ?_))
      refine ⟨.inr trivial, ?_⟩
      have hrd32 := (SlR.row (n := 2) hp23.get0 rfl).rd
      refine HOPS.eff _ rfl (opStep.append1 _ hp23 1 (by kernel_rfl) rfl rfl rfl hrd32 (List.all_eq_true.1 (by kernel_rfl)) (by decide) (by omega) (by omega) (fun a27 c28 w29 hp30 hn31 => ?_))
      rw [(show List.flatMap u8c xs ++ [.int .u8 (byteAt ⟨#[48, 49, 50, 51, 52, 53, 54, 55, 56, 57, 97, 98, 99, 100, 101, 102]⟩ ((byteAt b ((k : Int))).fdiv (2 ^ (min (4 : Int).toNat IntKind.u8.bits)))), .int .u8 (byteAt ⟨#[48, 49, 50, 51, 52, 53, 54, 55, 56, 57, 97, 98, 99, 100, 101, 102]⟩ (IntKind.u8.wrap (BitVec.ofInt IntKind.u8.bits (byteAt b ((k : Int))) &&& BitVec.ofInt IntKind.u8.bits 15).toNat))] = List.flatMap u8c (xs ++ [byteAt ⟨#[48, 49, 50, 51, 52, 53, 54, 55, 56, 57, 97, 98, 99, 100, 101, 102]⟩ ((byteAt b ((k : Int))).fdiv (2 ^ (min (4 : Int).toNat IntKind.u8.bits))), byteAt ⟨#[48, 49, 50, 51, 52, 53, 54, 55, 56, 57, 97, 98, 99, 100, 101, 102]⟩ (IntKind.u8.wrap (BitVec.ofInt IntKind.u8.bits (byteAt b ((k : Int))) &&& BitVec.ofInt IntKind.u8.bits 15).toNat)]) from (List.flatMap_append (xs := xs) (ys := [byteAt ⟨#[48, 49, 50, 51, 52, 53, 54, 55, 56, 57, 97, 98, 99, 100, 101, 102]⟩ ((byteAt b ((k : Int))).fdiv (2 ^ (min (4 : Int).toNat IntKind.u8.bits))), byteAt ⟨#[48, 49, 50, 51, 52, 53, 54, 55, 56, 57, 97, 98, 99, 100, 101, 102]⟩ (IntKind.u8.wrap (BitVec.ofInt IntKind.u8.bits (byteAt b ((k : Int))) &&& BitVec.ofInt IntKind.u8.bits 15).toNat)])).symm)] at hp30
      refine ⟨.inr trivial, ?_⟩
      refine HOPS.take 1 {} [] [0, 3, 8, 9] [.string b, .slice a27 (no + 2) c28, .int .i64 (b.size : Int), .int .i64 (k : Int)] (by kernel_rfl) trivial (fun w33 hS34 => QB.mk .nil (by kernel_rfl)) (fun b35 => ?_)
      refine HOPS.nil ?_
      refine blk_n ?_
      refine thn_n ?_
      refine WP.pure {} [] [0, 3, 8, 9] [.string b, .slice a27 (no + 2) c28, .int .i64 (b.size : Int), .int .i64 ((k : Int) + 1)] (.cons (show Rng .i64 ((k : Int) + 1) from Rng.i64 (by omega)) .nil) (by kernel_rfl) (fun b36 => ?_)
      refine thn_n ?_
      exact ⟨b.size - (k + 1), (by omega), k + 1, xs ++ [byteAt ⟨#[48, 49, 50, 51, 52, 53, 54, 55, 56, 57, 97, 98, 99, 100, 101, 102]⟩ ((byteAt b ((k : Int))).fdiv (2 ^ (min (4 : Int).toNat IntKind.u8.bits))), byteAt ⟨#[48, 49, 50, 51, 52, 53, 54, 55, 56, 57, 97, 98, 99, 100, 101, 102]⟩ (IntKind.u8.wrap (BitVec.ofInt IntKind.u8.bits (byteAt b ((k : Int))) &&& BitVec.ofInt IntKind.u8.bits 15).toNat)], a27, no + 2, c28, rfl, ⟨by omega, hex_step (by omega) pb nh nl⟩, by kernel_rfl, (hp30.sub (.cons _ (.cons_cons _ (.slnil))))⟩
    · refine WP.exit ?_
      refine thn_x ?_
      refine thn_x ?_
      refine blk_hit ?_
      refine thn_n ?_
      refine WP.seq ?_
      refine WP.pure {} [.string (strOf xs)] [2] [.string (strOf xs)] (.cons (show Bs Tryd.prog w9 (.slice ao no co) (.string (strOf xs)) from Bs.of (SlR.own hp10.get0) (own_flat (sz := 1) (fun _ => rfl) (by decide) hp10.get0)) .nil) (by kernel_rfl) (fun b37 => ?_)
      refine thn_n ?_
      refine WP.ret ?_
      refine bodyQ.of _ rfl [.string (strOf xs)] ⟨rfl, trivial⟩ ?_
      obtain rfl : k = b.size := by omega
      rw [List.take_of_length_le (by rw [← size_list]; exact Nat.le_refl _)] at pb
      exact ⟨by simp only [pack]; unfold hexT; rw [if_neg (fun q => h3 (ba_ext q)), ← pb, mk_list], hp10.fr⟩

end Go.Proofs.YtbpedjefoajegaaDoor.K
