/- The walks of PlayD: what each function computes. -/
import Derived.Test.YthdkbbpiaeaojaaProg
import Derived.Test.YthdkbbpiaeaojaaCoreO
import Derived.Test.YthdkbbpiaeaojaaPlayC
import Derived.Test.YthdkbbpiaeaojaaQuoM
namespace Go.Proofs.Ythdkbbpiaeaojaa.K
open Go Go.Proofs Go.RowKit
set_option linter.unusedVariables false
set_option linter.unusedSimpArgs false
set_option maxRecDepth 20000
set_option maxHeartbeats 4000000

structure Gsherdlaw09_Op where
  Kind : Int
  Config : GConfig
  I : Int
  J : Int
  N : Int
def Gsherdlaw09_Op.cells (x : Gsherdlaw09_Op) : List Go.Value := [.int .i64 x.Kind, .int .i64 x.Config.N, .int .i64 x.Config.K, .int .i64 x.Config.Delta, .int .i64 x.I, .int .i64 x.J, .int .i64 x.N]
def Gsherdlaw09_Op.val (x : Gsherdlaw09_Op) : Go.Value := .agg x.cells.toArray
instance : Inhabited Gsherdlaw09_Op := ⟨⟨0, default, 0, 0, 0⟩⟩
theorem Gsherdlaw09_Op.len (x : Gsherdlaw09_Op) : x.cells.length = 7 := rfl
theorem ent_set {f : Ent → List Go.Value} {es : List Ent} {j : Nat} {e : Ent} (hj : j < es.length) (h : f e = f es[j]!) : List.flatMap f (es.set j e) = List.flatMap f es := by
  have : es.map f = (es.set j e).map f := by
    apply List.ext_getElem?
    intro i
    rw [List.getElem?_map, List.getElem?_map, List.getElem?_set]
    by_cases hij : j = i
    · subst hij; rw [if_pos rfl, if_pos hj, get_bang hj]; simp [h]
    · rw [if_neg hij]
  rw [List.flatMap_def, List.flatMap_def, this]
theorem ok_app {es : List Ent} {e : Ent} (h : ∀ i, i < es.length → Ent.ok es[i]!) (he : Ent.ok e) : ∀ i, i < (es ++ [e]).length → Ent.ok (es ++ [e])[i]! := by
  intro i hi
  rw [List.length_append, List.length_singleton] at hi
  rw [app_bangQ hi]
  split
  · exact h i (by assumption)
  · exact he
theorem ok_setQ {es : List Ent} {e : Ent} {j : Nat} (h : ∀ i, i < es.length → i ≠ j → Ent.ok es[i]!) (hj : j < es.length) (he : Ent.ok e) : ∀ i, i < (es.set j e).length → Ent.ok (es.set j e)[i]! := by
  intro i hi
  rw [List.length_set] at hi
  rw [set_getQ hj]
  split
  · exact he
  · exact h i hi (by assumption)
theorem set_setQ {es : List Ent} {j : Nat} {x y : Ent} : (es.set j x).set j y = es.set j y := List.set_set ..

theorem book_at (w0 : World) (L : List Res) (bk : Nat) (es : List Ent) (aS : Option Addr) (nS cS : Nat) (aR : Option Addr) (nR cR : Nat) (w : World) (i : Int) (hel : es.length ≤ 10000000000000) (hp0 : Hp w0 Non (Res.row bk [.slice aS nS cS, .slice aR nR cR] 80 :: Res.own 62 1 (.slice aS nS cS) nS (List.flatMap entS es) :: Res.own 85 1 (.slice aR nR cR) nR (List.flatMap entR es) :: L) w) :
    Calls Try.prog 86 #[.pointer (some ⟨bk, 0, none⟩), .int .i64 i] w (fun x w' => ∃ j, ((j = es.length ∧ x = .returned (.tuple #[.pointer none, .pointer none])) ∨ (j < es.length ∧ x = .returned (.tuple #[.pointer (some ⟨(es[j]!).p, 0, none⟩), .pointer (some ⟨(es[j]!).q, 0, none⟩)]))) ∧ Hp w0 Non (Res.row bk [.slice aS nS cS, .slice aR nR cR] 80 :: Res.own 62 1 (.slice aS nS cS) nS (List.flatMap entS es) :: Res.own 85 1 (.slice aR nR cR) nR (List.flatMap entR es) :: L) w') := by
  have hnS := own_flat (sz := 1) (fun _ => rfl) (by decide) hp0.get1
  have hnR := own_flat (sz := 1) (fun _ => rfl) (by decide) hp0.get2
  have tm1 := tmod_bd i (((nS : Nat) : Int) + 1) (by omega)
  have tm2 := tmod_pos (x := i.tmod (((nS : Nat) : Int) + 1) + (((nS : Nat) : Int) + 1)) (k := ((nS : Nat) : Int) + 1) (by omega) (by omega)
  refine calls_of Try.func86 rfl 42 rfl (by simp) ?_
  have he0 : List.map (env0 [.pointer (some ⟨bk, 0, none⟩), .int .i64 i]) [0, 1] = [.pointer (some ⟨bk, 0, none⟩), .int .i64 i] := by kernel_rfl
  obtain ⟨b0, he0⟩ := toMk he0
  rw [he0]
  clear he0
  refine WP.seq ?_
  refine WP.pure {} [] [0, 1] [.pointer (some ⟨bk, 0, none⟩), .int .i64 i] .nil (by kernel_rfl) (fun b1 => ?_)
  refine thn_n ?_
  refine WP.seq ?_
  refine WP.pure {} [.slice aS nS cS] [0, 1, 6] [.pointer (some ⟨bk, 0, none⟩), .int .i64 i, .int .i64 (((nS : Nat) : Int) + 1)] (.cons (Ld.row1 (P := Try.prog) (t := 77) (o := 0) (v := .slice aS nS cS) hp0.get0 (by kernel_rfl)) (.cons (show Rng .i64 (((nS : Nat) : Int) + 1) from Rng.i64 (by omega)) .nil)) (by kernel_rfl) (fun b2 => ?_)
  refine thn_n ?_
  refine WP.seq ?_
  refine WP.pure {} [] [0, 7] [.pointer (some ⟨bk, 0, none⟩), .int .i64 (((i.tmod (((nS : Nat) : Int) + 1)) + (((nS : Nat) : Int) + 1)).tmod (((nS : Nat) : Int) + 1))] (.cons (show (((nS : Nat) : Int) + 1 : Int) ≠ 0 from by omega) (.cons (show Rng .i64 ((i.tmod (((nS : Nat) : Int) + 1)) + (((nS : Nat) : Int) + 1)) from Rng.i64 (by omega)) (.cons (show (((nS : Nat) : Int) + 1 : Int) ≠ 0 from by omega) .nil))) (by kernel_rfl) (fun b3 => ?_)
  refine thn_n ?_
  refine WP.seq ?_
  refine WP.seq ?_
  refine WP.pure {} [.slice aS nS cS] [0, 7, 27] [.pointer (some ⟨bk, 0, none⟩), .int .i64 (((i.tmod (((nS : Nat) : Int) + 1)) + (((nS : Nat) : Int) + 1)).tmod (((nS : Nat) : Int) + 1)), .bool (decide ((((i.tmod (((nS : Nat) : Int) + 1)) + (((nS : Nat) : Int) + 1)).tmod (((nS : Nat) : Int) + 1)) = ((nS : Nat) : Int)))] (.cons (Ld.row1 (P := Try.prog) (t := 77) (o := 0) (v := .slice aS nS cS) hp0.get0 (by kernel_rfl)) .nil) (by kernel_rfl) (fun b4 => ?_)
  refine thn_n ?_
  refine WP.test (p := (((i.tmod (((nS : Nat) : Int) + 1)) + (((nS : Nat) : Int) + 1)).tmod (((nS : Nat) : Int) + 1)) = ((nS : Nat) : Int)) rfl Bp.dec (fun h5 => ?_) (fun h5 => ?_)
  · refine WP.seq ?_
    refine WP.pure {} [] [4, 5] [.pointer none, .pointer none] .nil (by kernel_rfl) (fun b6 => ?_)
    refine thn_n ?_
    refine WP.ret ?_
    refine thn_r ?_
    refine bodyQ.of _ rfl [.pointer none, .pointer none] ⟨rfl, rfl, trivial⟩ ?_
    exact ⟨es.length, .inl ⟨rfl, rfl⟩, hp0⟩
  · refine WP.skip ?_
    refine thn_n ?_
    refine WP.seq ?_
    have hp9 := hp0.drew
    refine WP.quiet (fun w7 => Hp w0 Non (Res.row bk [.slice aS nS cS, .slice aR nR cR] 80 :: Res.own 62 1 (.slice aS nS cS) nS (List.flatMap entS es) :: Res.own 85 1 (.slice aR nR cR) nR (List.flatMap entR es) :: L) w7) (by kernel_rfl) hp9 ?_
    have hnehp9 : ∃ wz_, (fun w7 => Hp w0 Non (Res.row bk [.slice aS nS cS, .slice aR nR cR] 80 :: Res.own 62 1 (.slice aS nS cS) nS (List.flatMap entS es) :: Res.own 85 1 (.slice aR nR cR) nR (List.flatMap entR es) :: L) w7) wz_ := ⟨_, hp9⟩
    have := own_flat (sz := 1) (fun _ => rfl) (by decide) hp9.get1
    have hy13 : (es)[(((i.tmod (((nS : Nat) : Int) + 1)) + (((nS : Nat) : Int) + 1)).tmod (((nS : Nat) : Int) + 1) : Int).toNat]? = some es[(((i.tmod (((nS : Nat) : Int) + 1)) + (((nS : Nat) : Int) + 1)).tmod (((nS : Nat) : Int) + 1) : Int).toNat]! := get_bang (by first | (omega) | (simp only [List.length_append, List.length_cons, List.length_nil]; omega) | (simp only [List.length_take, List.length_append, List.length_cons, List.length_nil]; omega))
    refine QOPS.batch 16 {} [.slice aS nS cS, .pointer (some ⟨(es[(((i.tmod (((nS : Nat) : Int) + 1)) + (((nS : Nat) : Int) + 1)).tmod (((nS : Nat) : Int) + 1) : Int).toNat]!).p, 0, none⟩), .slice aR nR cR, .pointer (some ⟨(es[(((i.tmod (((nS : Nat) : Int) + 1)) + (((nS : Nat) : Int) + 1)).tmod (((nS : Nat) : Int) + 1) : Int).toNat]!).q, 0, none⟩)] [4, 5] [.pointer (some ⟨(es[(((i.tmod (((nS : Nat) : Int) + 1)) + (((nS : Nat) : Int) + 1)).tmod (((nS : Nat) : Int) + 1) : Int).toNat]!).p, 0, none⟩), .pointer (some ⟨(es[(((i.tmod (((nS : Nat) : Int) + 1)) + (((nS : Nat) : Int) + 1)).tmod (((nS : Nat) : Int) + 1) : Int).toNat]!).q, 0, none⟩)] hnehp9 (fun w10 hp11 => QB.mk (.cons (Ld.row1 (P := Try.prog) (t := 77) (o := 0) (v := .slice aS nS cS) hp11.get0 (by kernel_rfl)) (.cons (show InB (((i.tmod (((nS : Nat) : Int) + 1)) + (((nS : Nat) : Int) + 1)).tmod (((nS : Nat) : Int) + 1)) (nS) from ⟨by omega, by omega⟩) (.cons ((SlR.own (hp11.get1)).some (by omega)) (.cons (Ld.add0 (Ld.el1 (P := Try.prog) (t := 62) (SlR.own (hp11.get1)).rd 1 (fun _ => rfl) hy13 (o := 0) (v := .pointer (some ⟨(es[(((i.tmod (((nS : Nat) : Int) + 1)) + (((nS : Nat) : Int) + 1)).tmod (((nS : Nat) : Int) + 1) : Int).toNat]!).p, 0, none⟩)) (by kernel_rfl))) (.cons (Ld.row1 (P := Try.prog) (t := 78) (o := 1) (v := .slice aR nR cR) hp11.get0 (by kernel_rfl)) (.cons (show InB (((i.tmod (((nS : Nat) : Int) + 1)) + (((nS : Nat) : Int) + 1)).tmod (((nS : Nat) : Int) + 1)) (nR) from ⟨by omega, by omega⟩) (.cons ((SlR.own (hp11.get2)).some (by omega)) (.cons (Ld.add0 (Ld.el1 (P := Try.prog) (t := 85) (SlR.own (hp11.get2)).rd 1 (fun _ => rfl) hy13 (o := 0) (v := .pointer (some ⟨(es[(((i.tmod (((nS : Nat) : Int) + 1)) + (((nS : Nat) : Int) + 1)).tmod (((nS : Nat) : Int) + 1) : Int).toNat]!).q, 0, none⟩)) (by kernel_rfl))) .nil)))))))) (by kernel_rfl)) (fun b14 => ?_)
    refine QOPS.nil (fun w15 hp16 => ?_)
    refine thn_n ?_
    refine WP.ret ?_
    refine bodyQ.of _ rfl [.pointer (some ⟨(es[(((i.tmod (((nS : Nat) : Int) + 1)) + (((nS : Nat) : Int) + 1)).tmod (((nS : Nat) : Int) + 1) : Int).toNat]!).p, 0, none⟩), .pointer (some ⟨(es[(((i.tmod (((nS : Nat) : Int) + 1)) + (((nS : Nat) : Int) + 1)).tmod (((nS : Nat) : Int) + 1) : Int).toNat]!).q, 0, none⟩)] ⟨rfl, rfl, trivial⟩ ?_
    exact ⟨(((i.tmod (((nS : Nat) : Int) + 1)) + (((nS : Nat) : Int) + 1)).tmod (((nS : Nat) : Int) + 1) : Int).toNat, .inr ⟨by omega, rfl⟩, hp16⟩

theorem keep_nil (w : World) (o : Option Addr) (er : Int) :
    Calls Try.prog 88 #[.pointer o, .pointer none, .int .i64 er, .pointer none, .int .i64 er] w (fun x w' => x = .returned (.bool true) ∧ Fram Non w w') := by
  refine calls_of Try.func88 rfl 42 rfl (by simp) ?_
  have hp0 := Hp.init w
  have he0 : List.map (env0 [.pointer o, .pointer none, .int .i64 er, .pointer none, .int .i64 er]) [0, 1, 2, 3, 4] = [.pointer o, .pointer none, .int .i64 er, .pointer none, .int .i64 er] := by kernel_rfl
  obtain ⟨b0, he0⟩ := toMk he0
  rw [he0]
  clear he0
  refine WP.seq ?_
  refine WP.pure {} [] [0, 1, 2, 3, 4] [.pointer o, .pointer none, .int .i64 er, .pointer none, .int .i64 er] .nil (by kernel_rfl) (fun b1 => ?_)
  refine thn_n ?_
  refine WP.seq ?_
  refine WP.cut (fun e17 w18 => ∃ (x15 : Bool), (True) ∧ Bp x15 ((¬ (er = er))) ∧ List.map e17 [0, 1, 3, 19] = [.pointer o, .pointer none, .pointer none, .bool x15] ∧ Hp w Non [] w18) ?_ ?_
  · refine WP.region _ rfl (by kernel_rfl) ?_
    refine OPS.batch 4 {} [] [0, 1, 3, 14] [.pointer o, .pointer none, .pointer none, .bool (decide (¬ (er = er)))] .nil (by kernel_rfl) (fun b3 => ?_)
    by_cases h4 : er = er
    · refine OPS.batch 0 {} [] [0, 1, 3, 14] [.pointer o, .pointer none, .pointer none, .bool (decide (¬ (er = er)))] .nil (by kernel_rfl) (fun b7 => ?_)
      refine OPS.re [.pointer o, .pointer none, .pointer none, .bool false] (by rw [show (decide (¬ (er = er))) = false from Bp.dec.ff (fun k => k h4)]) ?_
      refine OPS.batch 2 {} [] [0, 1, 3, 14, 15, 16] [.pointer o, .pointer none, .pointer none, .bool false, .pointer none, .pointer none] .nil (by kernel_rfl) (fun b8 => ?_)
      refine OPS.want (by kernel_rfl) ?_
      refine OPS.cons (opStep.call (some 17) [.pointer none, .pointer none] (by kernel_rfl) (same_nil _) ?_)
      rintro _ w11 ⟨rfl, hf12⟩
      refine ⟨_, rfl, ?_⟩
      have hp13 := hp0.step hf12
      refine OPS.batch 2 { wraps := [19] } [] [0, 1, 3, 19] [.pointer o, .pointer none, .pointer none, .bool false] .nil (by kernel_rfl) (fun b14 => ?_)
      refine OPS.nil ?_
      refine thn_n ?_
      exact ⟨false, trivial, Bp.of Bp.f (by first | (simp only [h4, iff_false, false_iff, iff_true, true_iff, Classical.not_not, and_true, true_and, and_false, false_and, or_true, true_or, or_false, false_or, not_true_eq_false, not_false_eq_true, and_self, or_self, iff_self]; done) | (simp [h4]; done) | simp_all), by kernel_rfl, hp13⟩
    · refine OPS.batch 0 {} [] [0, 1, 3, 14] [.pointer o, .pointer none, .pointer none, .bool (decide (¬ (er = er)))] .nil (by kernel_rfl) (fun b5 => ?_)
      refine OPS.re [.pointer o, .pointer none, .pointer none, .bool true] (by rw [show (decide (¬ (er = er))) = true from Bp.dec.tt h4]) ?_
      refine OPS.batch 5 { wraps := [19] } [] [0, 1, 3, 19] [.pointer o, .pointer none, .pointer none, .bool true] .nil (by kernel_rfl) (fun b6 => ?_)
      refine OPS.nil ?_
      refine thn_n ?_
      exact ⟨true, trivial, Bp.of Bp.t (by first | (simp only [h4, iff_false, false_iff, iff_true, true_iff, Classical.not_not, and_true, true_and, and_false, false_and, or_true, true_or, or_false, false_or, not_true_eq_false, not_false_eq_true, and_self, or_self, iff_self]; done) | (simp [h4]; done) | simp_all), by kernel_rfl, hp0⟩
  rintro e17 w18 ⟨x15, hd20, hb16, hE21, hp19⟩
  obtain ⟨b22, rfl⟩ := toMk hE21
  clear hE21
  clear hd20
  refine WP.test (p := (¬ (er = er))) rfl hb16 (fun h23 => ?_) (fun h23 => ?_)
  · refine WP.seq ?_
    refine WP.pure {} [] [10] [.bool false] .nil (by kernel_rfl) (fun b24 => ?_)
    refine thn_n ?_
    refine WP.ret ?_
    refine thn_r ?_
    refine bodyQ.of _ rfl [.bool false] ⟨rfl, trivial⟩ ?_
    exfalso
    exact h23 rfl
  · refine WP.skip ?_
    refine thn_n ?_
    refine WP.seq ?_
    refine WP.seq ?_
    refine WP.pure {} [] [0, 1, 3, 21] [.pointer o, .pointer none, .pointer none, .bool false] .nil (by kernel_rfl) (fun b25 => ?_)
    refine thn_n ?_
    refine WP.condF rfl ?_
    refine WP.skip ?_
    refine thn_n ?_
    refine WP.seq ?_
    refine WP.pure {} [] [10] [.bool true] .nil (by kernel_rfl) (fun b26 => ?_)
    refine thn_n ?_
    refine WP.ret ?_
    refine bodyQ.of _ rfl [.bool true] ⟨rfl, trivial⟩ ?_
    exact ⟨rfl, hp19.fr⟩

theorem keep_ok (w0 : World) (L : List Res) (bk : Nat) (es : List Ent) (aS : Option Addr) (nS cS : Nat) (aR : Option Addr) (nR cR : Nat) (e : Ent) (w : World) (er : Int) (hel : es.length ≤ 10000000000000) (hek : Ent.ok e) (hp0 : Hp w0 Non (Res.row bk [.slice aS nS cS, .slice aR nR cR] 80 :: Res.own 62 1 (.slice aS nS cS) nS (List.flatMap entS es) :: Res.own 85 1 (.slice aR nR cR) nR (List.flatMap entR es) :: Res.row e.p [.int .i64 e.c.N, .int .i64 e.c.K, .int .i64 e.c.Delta, .int .u64 ((wd e.m 0 : Nat) : Int), .int .u64 ((wd e.m 1 : Nat) : Int), .int .u64 ((wd e.m 2 : Nat) : Int), .int .u64 ((wd e.m 3 : Nat) : Int)] 133 :: Res.row e.q [.int .i64 e.c.N, .int .i64 e.c.K, .int .i64 e.c.Delta, .slice e.a e.n e.cp] 163 :: Res.own 3 1 (.slice e.a e.n e.cp) e.n (List.flatMap (fun (y : Int) => [Go.Value.int .i64 y]) e.ys) :: L) w) :
    Calls Try.prog 88 #[.pointer (some ⟨bk, 0, none⟩), .pointer (some ⟨e.p, 0, none⟩), .int .i64 er, .pointer (some ⟨e.q, 0, none⟩), .int .i64 er] w (fun x w' => ∃ (aS' : Option Addr) (nS' cS' : Nat) (aR' : Option Addr) (nR' cR' : Nat), x = .returned (.bool true) ∧ Hp w0 Non (Res.row bk [.slice aS' nS' cS', .slice aR' nR' cR'] 80 :: Res.own 62 1 (.slice aS' nS' cS') nS' (List.flatMap entS (es ++ [e])) :: Res.own 85 1 (.slice aR' nR' cR') nR' (List.flatMap entR (es ++ [e])) :: Res.row e.p [.int .i64 e.c.N, .int .i64 e.c.K, .int .i64 e.c.Delta, .int .u64 ((wd e.m 0 : Nat) : Int), .int .u64 ((wd e.m 1 : Nat) : Int), .int .u64 ((wd e.m 2 : Nat) : Int), .int .u64 ((wd e.m 3 : Nat) : Int)] 133 :: Res.row e.q [.int .i64 e.c.N, .int .i64 e.c.K, .int .i64 e.c.Delta, .slice e.a e.n e.cp] 163 :: Res.own 3 1 (.slice e.a e.n e.cp) e.n (List.flatMap (fun (y : Int) => [Go.Value.int .i64 y]) e.ys) :: L) w') := by
  have hnS := own_flat (sz := 1) (fun _ => rfl) (by decide) hp0.get1
  have hnR := own_flat (sz := 1) (fun _ => rfl) (by decide) hp0.get2
  refine calls_of Try.func88 rfl 42 rfl (by simp) ?_
  have he0 : List.map (env0 [.pointer (some ⟨bk, 0, none⟩), .pointer (some ⟨e.p, 0, none⟩), .int .i64 er, .pointer (some ⟨e.q, 0, none⟩), .int .i64 er]) [0, 1, 2, 3, 4] = [.pointer (some ⟨bk, 0, none⟩), .pointer (some ⟨e.p, 0, none⟩), .int .i64 er, .pointer (some ⟨e.q, 0, none⟩), .int .i64 er] := by kernel_rfl
  obtain ⟨b0, he0⟩ := toMk he0
  rw [he0]
  clear he0
  refine WP.seq ?_
  refine WP.pure {} [] [0, 1, 2, 3, 4] [.pointer (some ⟨bk, 0, none⟩), .pointer (some ⟨e.p, 0, none⟩), .int .i64 er, .pointer (some ⟨e.q, 0, none⟩), .int .i64 er] .nil (by kernel_rfl) (fun b1 => ?_)
  refine thn_n ?_
  refine WP.seq ?_
  refine WP.cut (fun e19 w20 => ∃ (x17 : Bool), (True) ∧ Bp x17 ((¬ (er = er))) ∧ List.map e19 [0, 1, 3, 19] = [.pointer (some ⟨bk, 0, none⟩), .pointer (some ⟨e.p, 0, none⟩), .pointer (some ⟨e.q, 0, none⟩), .bool x17] ∧ Hp w0 Non (Res.row bk [.slice aS nS cS, .slice aR nR cR] 80 :: Res.own 62 1 (.slice aS nS cS) nS (List.flatMap entS es) :: Res.own 85 1 (.slice aR nR cR) nR (List.flatMap entR es) :: Res.row e.p [.int .i64 e.c.N, .int .i64 e.c.K, .int .i64 e.c.Delta, .int .u64 ((wd e.m 0 : Nat) : Int), .int .u64 ((wd e.m 1 : Nat) : Int), .int .u64 ((wd e.m 2 : Nat) : Int), .int .u64 ((wd e.m 3 : Nat) : Int)] 133 :: Res.row e.q [.int .i64 e.c.N, .int .i64 e.c.K, .int .i64 e.c.Delta, .slice e.a e.n e.cp] 163 :: Res.own 3 1 (.slice e.a e.n e.cp) e.n (List.flatMap (fun (y : Int) => [Go.Value.int .i64 y]) e.ys) :: L) w20) ?_ ?_
  · refine WP.region _ rfl (by kernel_rfl) ?_
    refine OPS.batch 4 {} [] [0, 1, 3, 14] [.pointer (some ⟨bk, 0, none⟩), .pointer (some ⟨e.p, 0, none⟩), .pointer (some ⟨e.q, 0, none⟩), .bool (decide (¬ (er = er)))] .nil (by kernel_rfl) (fun b3 => ?_)
    by_cases h4 : er = er
    · refine OPS.batch 0 {} [] [0, 1, 3, 14] [.pointer (some ⟨bk, 0, none⟩), .pointer (some ⟨e.p, 0, none⟩), .pointer (some ⟨e.q, 0, none⟩), .bool (decide (¬ (er = er)))] .nil (by kernel_rfl) (fun b7 => ?_)
      refine OPS.re [.pointer (some ⟨bk, 0, none⟩), .pointer (some ⟨e.p, 0, none⟩), .pointer (some ⟨e.q, 0, none⟩), .bool false] (by rw [show (decide (¬ (er = er))) = false from Bp.dec.ff (fun k => k h4)]) ?_
      refine OPS.batch 2 {} [] [0, 1, 3, 14, 15, 16] [.pointer (some ⟨bk, 0, none⟩), .pointer (some ⟨e.p, 0, none⟩), .pointer (some ⟨e.q, 0, none⟩), .bool false, .pointer (some ⟨e.p, 0, none⟩), .pointer (some ⟨e.q, 0, none⟩)] .nil (by kernel_rfl) (fun b8 => ?_)
      refine OPS.want (by kernel_rfl) ?_
      have hp11 := hp0.pull5
      have hp12 := hp11.pull5
      have hp13 := hp12.pull5
      refine OPS.cons (opStep.call (some 17) [.pointer (some ⟨e.p, 0, none⟩), .pointer (some ⟨e.q, 0, none⟩)] (by kernel_rfl) (same_ok _ _ _ _ _ _ _ _ _ _ _ hek.1 hek.2 hp13) ?_)
      rintro _ w14 ⟨rfl, hp15⟩
      refine ⟨_, rfl, ?_⟩
      refine OPS.batch 2 { wraps := [19] } [] [0, 1, 3, 19] [.pointer (some ⟨bk, 0, none⟩), .pointer (some ⟨e.p, 0, none⟩), .pointer (some ⟨e.q, 0, none⟩), .bool false] .nil (by kernel_rfl) (fun b16 => ?_)
      refine OPS.nil ?_
      refine thn_n ?_
      exact ⟨false, trivial, Bp.of Bp.f (by first | (simp only [h4, iff_false, false_iff, iff_true, true_iff, Classical.not_not, and_true, true_and, and_false, false_and, or_true, true_or, or_false, false_or, not_true_eq_false, not_false_eq_true, and_self, or_self, iff_self]; done) | (simp [h4]; done) | simp_all), by kernel_rfl, (((((((hp15.pull2).pull2).pull2).pull5).pull5).pull5).sub (.cons_cons _ (.cons_cons _ (.cons_cons _ (.cons_cons _ (.cons_cons _ (.cons_cons _ (.refl _))))))))⟩
    · refine OPS.batch 0 {} [] [0, 1, 3, 14] [.pointer (some ⟨bk, 0, none⟩), .pointer (some ⟨e.p, 0, none⟩), .pointer (some ⟨e.q, 0, none⟩), .bool (decide (¬ (er = er)))] .nil (by kernel_rfl) (fun b5 => ?_)
      refine OPS.re [.pointer (some ⟨bk, 0, none⟩), .pointer (some ⟨e.p, 0, none⟩), .pointer (some ⟨e.q, 0, none⟩), .bool true] (by rw [show (decide (¬ (er = er))) = true from Bp.dec.tt h4]) ?_
      refine OPS.batch 5 { wraps := [19] } [] [0, 1, 3, 19] [.pointer (some ⟨bk, 0, none⟩), .pointer (some ⟨e.p, 0, none⟩), .pointer (some ⟨e.q, 0, none⟩), .bool true] .nil (by kernel_rfl) (fun b6 => ?_)
      refine OPS.nil ?_
      refine thn_n ?_
      exact ⟨true, trivial, Bp.of Bp.t (by first | (simp only [h4, iff_false, false_iff, iff_true, true_iff, Classical.not_not, and_true, true_and, and_false, false_and, or_true, true_or, or_false, false_or, not_true_eq_false, not_false_eq_true, and_self, or_self, iff_self]; done) | (simp [h4]; done) | simp_all), by kernel_rfl, hp0⟩
  rintro e19 w20 ⟨x17, hd22, hb18, hE23, hp21⟩
  obtain ⟨b24, rfl⟩ := toMk hE23
  clear hE23
  clear hd22
  refine WP.test (p := (¬ (er = er))) rfl hb18 (fun h25 => ?_) (fun h25 => ?_)
  · refine WP.seq ?_
    refine WP.pure {} [] [10] [.bool false] .nil (by kernel_rfl) (fun b26 => ?_)
    refine thn_n ?_
    refine WP.ret ?_
    refine thn_r ?_
    refine bodyQ.of _ rfl [.bool false] ⟨rfl, trivial⟩ ?_
    exfalso
    exact h25 rfl
  · refine WP.skip ?_
    refine thn_n ?_
    refine WP.seq ?_
    refine WP.seq ?_
    refine WP.pure {} [] [0, 1, 3, 21] [.pointer (some ⟨bk, 0, none⟩), .pointer (some ⟨e.p, 0, none⟩), .pointer (some ⟨e.q, 0, none⟩), .bool true] .nil (by kernel_rfl) (fun b27 => ?_)
    refine thn_n ?_
    refine WP.condT rfl ?_
    refine WP.seq ?_
    refine WP.region _ rfl (by kernel_rfl) ?_
    refine OPS.batch 6 {} [.slice aS nS cS] [0, 3, 22, 26, 27] [.pointer (some ⟨bk, 0, none⟩), .pointer (some ⟨e.q, 0, none⟩), .pointer (some ⟨bk, 0, none⟩), .slice aS nS cS, .pointer (some ⟨e.p, 0, none⟩)] (.cons (Ld.row1 (P := Try.prog) (t := 77) (o := 0) (v := .slice aS nS cS) hp21.get0 (by kernel_rfl)) .nil) (by kernel_rfl) (fun b28 => ?_)
    refine OPS.cons (opStep.buildSlice (E := 62) hp21 [.pointer (some ⟨e.p, 0, none⟩)] (by kernel_rfl) (fun g31 w29 hp30 => ?_))
    refine OPS.cons (opStep.append2 [.pointer (some ⟨e.p, 0, none⟩)] hp30 8 (by kernel_rfl) rfl rfl rfl (SlR.row (n := 1) hp30.get0 rfl).rd (List.all_eq_true.1 (by kernel_rfl)) (by decide) (by omega) (by omega) (fun a34 c35 w36 hp37 hn38 => ?_))
    rw [(show List.flatMap entS es ++ [.pointer (some ⟨e.p, 0, none⟩)] = List.flatMap entS (es ++ [e]) from (List.flatMap_append (xs := es) (ys := [e])).symm)] at hp37
    refine OPS.batch 2 {} [] [0, 3, 29, 31] [.pointer (some ⟨bk, 0, none⟩), .pointer (some ⟨e.q, 0, none⟩), .slice a34 (nS + 1) c35, .pointer (some ⟨bk, 0, none⟩)] .nil (by kernel_rfl) (fun b39 => ?_)
    refine OPS.cons (opStep.store1 hp37 rfl [.slice a34 (nS + 1) c35] [.slice a34 (nS + 1) c35, .slice aR nR cR] (by kernel_rfl) (fun w40 hp41 => ?_))
    refine OPS.nil ?_
    refine thn_n ?_
    refine WP.region _ rfl (by kernel_rfl) ?_
    refine OPS.batch 6 {} [.slice aR nR cR] [32, 36, 37] [.pointer (some ⟨bk, 0, none⟩), .slice aR nR cR, .pointer (some ⟨e.q, 0, none⟩)] (.cons (Ld.row1 (P := Try.prog) (t := 78) (o := 1) (v := .slice aR nR cR) hp41.get1 (by kernel_rfl)) .nil) (by kernel_rfl) (fun b42 => ?_)
    refine OPS.cons (opStep.buildSlice (E := 85) hp41 [.pointer (some ⟨e.q, 0, none⟩)] (by kernel_rfl) (fun g45 w43 hp44 => ?_))
    refine OPS.cons (opStep.append4 [.pointer (some ⟨e.q, 0, none⟩)] hp44 8 (by kernel_rfl) rfl rfl rfl (SlR.row (n := 1) hp44.get0 rfl).rd (List.all_eq_true.1 (by kernel_rfl)) (by decide) (by omega) (by omega) (fun a48 c49 w50 hp51 hn52 => ?_))
    rw [(show List.flatMap entR es ++ [.pointer (some ⟨e.q, 0, none⟩)] = List.flatMap entR (es ++ [e]) from (List.flatMap_append (xs := es) (ys := [e])).symm)] at hp51
    refine OPS.batch 2 {} [] [39, 41] [.slice a48 (nR + 1) c49, .pointer (some ⟨bk, 1, none⟩)] .nil (by kernel_rfl) (fun b53 => ?_)
    refine OPS.cons (opStep.store2 hp51 rfl [.slice a48 (nR + 1) c49] [.slice a34 (nS + 1) c35, .slice a48 (nR + 1) c49] (by kernel_rfl) (fun w54 hp55 => ?_))
    refine OPS.nil ?_
    refine thn_n ?_
    refine WP.seq ?_
    refine WP.pure {} [] [10] [.bool true] .nil (by kernel_rfl) (fun b56 => ?_)
    refine thn_n ?_
    refine WP.ret ?_
    refine bodyQ.of _ rfl [.bool true] ⟨rfl, trivial⟩ ?_
    exact ⟨_, _, _, _, _, _, rfl, (hp55.sub (.cons _ (.cons _ (.cons_cons _ (.cons_cons _ (.cons_cons _ (.cons_cons _ (.cons_cons _ (.cons_cons _ (.refl _))))))))))⟩

end Go.Proofs.Ythdkbbpiaeaojaa.K
