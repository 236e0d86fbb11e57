/- The walks of PlE: what each function computes. -/
import Derived.Test.YtgpjpcemfaignaaProg
import Derived.Test.YtgpjpcemfaignaaCoreO
import Derived.Test.YtgpjpcemfaignaaPlW
import Derived.Test.YtgpjpcemfaignaaSlc
import Derived.Test.YtgpjpcemfaignaaCoreT
namespace Go.Proofs.Ytgpjpcemfaignaa.K
open Go Go.Proofs Go.RowKit
set_option linter.unusedVariables false
set_option linter.unusedSimpArgs false
set_option maxRecDepth 20000
set_option maxHeartbeats 4000000

theorem e17_1 (w0 : World) (L : List Res) (b mb gb pb ob : Nat) (c : GConfig) (o : Gsherdlaw17_Op) (w : World) (ag : Option Addr) (ng cg : Nat) (xs : List Int) (l : List (Int × Int)) (sv vv : Int) (hb : xs.length ≤ 1000) (hp0 : Hp w0 Non (Res.own 3 1 (.slice ag ng cg) ng (List.flatMap (fun (y : Int) => [Go.Value.int .i64 y]) xs) :: Res.row gb [.slice ag ng cg] 24 :: Res.row pb [.pointer (some ⟨b, 0, none⟩)] 42 :: Res.row ob [.int .i64 o.Kind, .int .i64 o.P, .int .i64 o.Server, .int .i64 o.V, .int .i64 o.N] 52 :: Res.row b [.int .i64 c.N, .int .i64 c.K, .int .i64 c.Delta, .map (some mb)] 98 :: Res.mp mb kI vI l :: L) w) :
    Calls Try.prog 98 #[.int .i64 sv, .int .i64 vv, .pointer (some ⟨gb, 0, none⟩), .pointer (some ⟨pb, 0, none⟩), .pointer (some ⟨ob, 0, none⟩)] w (fun r_ w' => ∃ f_ a_ c_, r_ = .returned (.bool f_) ∧ Bp f_ (¬ (((xs.length : Nat) : Int) + 2).tdiv 2 = o.N) ∧ Hp w0 Non (Res.own 3 1 (.slice a_ (xs.length + 2) c_) (xs.length + 2) (List.flatMap (fun (y : Int) => [Go.Value.int .i64 y]) (xs ++ [sv, vv])) :: Res.row gb [.slice a_ (xs.length + 2) c_] 24 :: Res.row pb [.pointer (some ⟨b, 0, none⟩)] 42 :: Res.row ob [.int .i64 o.Kind, .int .i64 o.P, .int .i64 o.Server, .int .i64 o.V, .int .i64 o.N] 52 :: Res.row b [.int .i64 c.N, .int .i64 c.K, .int .i64 c.Delta, .map (some mb)] 98 :: Res.mp mb kI vI (evP c l xs o.V) :: L) w') := by
  have pe := own_flat (sz := 1) (fun _ => rfl) (by decide) hp0.get0
  have ptd : ((ng + 2 : Nat) : Int).tdiv 2 = ((ng + 2 : Nat) : Int) / 2 := Int.tdiv_eq_ediv_of_nonneg (by omega)
  have ptd2 : (((xs.length : Nat) : Int) + 2).tdiv 2 = (((xs.length : Nat) : Int) + 2) / 2 := Int.tdiv_eq_ediv_of_nonneg (by omega)
  refine calls_of Try.func98 rfl 26 rfl (by simp) ?_
  have he0 : List.map (env0 [.int .i64 sv, .int .i64 vv, .pointer (some ⟨gb, 0, none⟩), .pointer (some ⟨pb, 0, none⟩), .pointer (some ⟨ob, 0, none⟩)]) [0, 1, 2, 3, 4] = [.int .i64 sv, .int .i64 vv, .pointer (some ⟨gb, 0, none⟩), .pointer (some ⟨pb, 0, none⟩), .pointer (some ⟨ob, 0, none⟩)] := by kernel_rfl
  obtain ⟨b0, he0⟩ := toMk he0
  rw [he0]
  clear he0
  refine WP.seq ?_
  refine WP.pure {} [] [0, 1, 2, 3, 4] [.int .i64 sv, .int .i64 vv, .pointer (some ⟨gb, 0, none⟩), .pointer (some ⟨pb, 0, none⟩), .pointer (some ⟨ob, 0, none⟩)] .nil (by kernel_rfl) (fun b1 => ?_)
  refine thn_n ?_
  refine WP.seq ?_
  refine WP.seq ?_
  refine WP.pure {} [.slice ag ng cg] [0, 1, 2, 3, 4, 10] [.int .i64 sv, .int .i64 vv, .pointer (some ⟨gb, 0, none⟩), .pointer (some ⟨pb, 0, none⟩), .pointer (some ⟨ob, 0, none⟩), .bool (decide (((ng : Nat) : Int) = 0))] (.cons (Ld.row1 (P := Try.prog) (t := 24) (o := 0) (v := .slice ag ng cg) hp0.get1 (by kernel_rfl)) .nil) (by kernel_rfl) (fun b2 => ?_)
  refine thn_n ?_
  refine WP.test (p := ((ng : Nat) : Int) = 0) rfl Bp.dec (fun h3 => ?_) (fun h3 => ?_)
  · refine WP.region _ rfl (by kernel_rfl) ?_
    refine OPS.batch 3 {} [.pointer (some ⟨b, 0, none⟩), .int .i64 o.V] [0, 1, 2, 4, 11, 13] [.int .i64 sv, .int .i64 vv, .pointer (some ⟨gb, 0, none⟩), .pointer (some ⟨ob, 0, none⟩), .pointer (some ⟨b, 0, none⟩), .int .i64 o.V] (.cons (Ld.row1 (P := Try.prog) (t := 42) (o := 0) (v := .pointer (some ⟨b, 0, none⟩)) hp0.get2 (by kernel_rfl)) (.cons (Ld.row1 (P := Try.prog) (t := 3) (o := 3) (v := .int .i64 o.V) hp0.get3 (by kernel_rfl)) .nil)) (by kernel_rfl) (fun b4 => ?_)
    have hp7 := hp0.pull5
    have hp8 := hp7.pull5
    refine OPS.cons (opStep.call (some 14) [.pointer (some ⟨b, 0, none⟩), .int .i64 o.V, .int .i64 4444] (by kernel_rfl) (pi_Answer _ _ _ mb c l _ o.V 4444 hp8) ?_)
    rintro _ w9 ⟨b11, rfl, hb12, hp10⟩
    refine ⟨_, rfl, ?_⟩
    refine OPS.nil ?_
    refine thn_n ?_
    refine WP.seq ?_
    refine WP.region _ rfl (by kernel_rfl) ?_
    refine OPS.batch 3 {} [.slice ag ng cg] [2, 4, 15, 16, 17] [.pointer (some ⟨gb, 0, none⟩), .pointer (some ⟨ob, 0, none⟩), .slice ag ng cg, .int .i64 sv, .int .i64 vv] (.cons (Ld.row1 (P := Try.prog) (t := 24) (o := 0) (v := .slice ag ng cg) hp10.get3 (by kernel_rfl)) .nil) (by kernel_rfl) (fun b13 => ?_)
    refine OPS.cons (opStep.buildSlice (E := 3) hp10 [.int .i64 sv, .int .i64 vv] (by kernel_rfl) (fun g16 w14 hp15 => ?_))
    refine OPS.cons (opStep.append3 [.int .i64 sv, .int .i64 vv] hp15 8 (by kernel_rfl) rfl rfl rfl (SlR.row (n := 2) hp15.get0 rfl).rd (List.all_eq_true.1 (by kernel_rfl)) (by decide) (by omega) (by omega) (fun a19 c20 w21 hp22 hn23 => ?_))
    rw [(show List.flatMap (fun (y : Int) => [Go.Value.int .i64 y]) xs ++ [.int .i64 sv, .int .i64 vv] = List.flatMap (fun (y : Int) => [Go.Value.int .i64 y]) (xs ++ [sv, vv]) from (List.flatMap_append (xs := xs) (ys := [sv, vv])).symm)] at hp22
    refine OPS.cons (opStep.store4 hp22 rfl [.slice a19 (ng + 2) c20] [.slice a19 (ng + 2) c20] (by kernel_rfl) (fun w24 hp25 => ?_))
    refine OPS.nil ?_
    refine thn_n ?_
    refine WP.seq ?_
    refine WP.pure {} [.slice a19 (ng + 2) c20, .int .i64 o.N] [7] [.bool (decide (¬ ((((ng + 2 : Nat) : Int).tdiv 2) = o.N)))] (.cons (Ld.row1 (P := Try.prog) (t := 24) (o := 0) (v := .slice a19 (ng + 2) c20) hp25.get4 (by kernel_rfl)) (.cons (show (2 : Int) ≠ 0 from by omega) (.cons (show Rng .i64 (((ng + 2 : Nat) : Int).tdiv 2) from Rng.i64 (by omega)) (.cons (Ld.row1 (P := Try.prog) (t := 3) (o := 4) (v := .int .i64 o.N) hp25.get6 (by kernel_rfl)) .nil)))) (by kernel_rfl) (fun b26 => ?_)
    refine thn_n ?_
    refine WP.ret ?_
    refine bodyQ.of _ rfl [.bool (decide (¬ ((((ng + 2 : Nat) : Int).tdiv 2) = o.N)))] ⟨rfl, trivial⟩ ?_
    have hq0 : xs = [] := by apply List.eq_nil_of_length_eq_zero; omega
    have hM : evP c l xs o.V = ansP c l o.V 4444 := by unfold evP; rw [if_pos hq0]
    rw [hM]
    refine ⟨_, a19, c20, rfl, Bp.of Bp.dec (by first | exact Iff.rfl | (constructor <;> intro h <;> omega)), ?_⟩
    rw [pe]
    exact (((((((hp25.pull2).pull2).pull6).pull6).pull6).pull6).sub (.cons_cons _ (.cons_cons _ (.cons_cons _ (.cons_cons _ (.cons_cons _ (.cons_cons _ (.cons _ (.refl _)))))))))
  · refine WP.skip ?_
    refine thn_n ?_
    refine WP.seq ?_
    refine WP.region _ rfl (by kernel_rfl) ?_
    refine OPS.batch 3 {} [.slice ag ng cg] [2, 4, 15, 16, 17] [.pointer (some ⟨gb, 0, none⟩), .pointer (some ⟨ob, 0, none⟩), .slice ag ng cg, .int .i64 sv, .int .i64 vv] (.cons (Ld.row1 (P := Try.prog) (t := 24) (o := 0) (v := .slice ag ng cg) hp0.get1 (by kernel_rfl)) .nil) (by kernel_rfl) (fun b28 => ?_)
    refine OPS.cons (opStep.buildSlice (E := 3) hp0 [.int .i64 sv, .int .i64 vv] (by kernel_rfl) (fun g31 w29 hp30 => ?_))
    refine OPS.cons (opStep.append1 [.int .i64 sv, .int .i64 vv] hp30 8 (by kernel_rfl) rfl rfl rfl (SlR.row (n := 2) hp30.get0 rfl).rd (List.all_eq_true.1 (by kernel_rfl)) (by decide) (by omega) (by omega) (fun a34 c35 w36 hp37 hn38 => ?_))
    rw [(show List.flatMap (fun (y : Int) => [Go.Value.int .i64 y]) xs ++ [.int .i64 sv, .int .i64 vv] = List.flatMap (fun (y : Int) => [Go.Value.int .i64 y]) (xs ++ [sv, vv]) from (List.flatMap_append (xs := xs) (ys := [sv, vv])).symm)] at hp37
    refine OPS.cons (opStep.store2 hp37 rfl [.slice a34 (ng + 2) c35] [.slice a34 (ng + 2) c35] (by kernel_rfl) (fun w39 hp40 => ?_))
    refine OPS.nil ?_
    refine thn_n ?_
    refine WP.seq ?_
    refine WP.pure {} [.slice a34 (ng + 2) c35, .int .i64 o.N] [7] [.bool (decide (¬ ((((ng + 2 : Nat) : Int).tdiv 2) = o.N)))] (.cons (Ld.row1 (P := Try.prog) (t := 24) (o := 0) (v := .slice a34 (ng + 2) c35) hp40.get2 (by kernel_rfl)) (.cons (show (2 : Int) ≠ 0 from by omega) (.cons (show Rng .i64 (((ng + 2 : Nat) : Int).tdiv 2) from Rng.i64 (by omega)) (.cons (Ld.row1 (P := Try.prog) (t := 3) (o := 4) (v := .int .i64 o.N) hp40.get4 (by kernel_rfl)) .nil)))) (by kernel_rfl) (fun b41 => ?_)
    refine thn_n ?_
    refine WP.ret ?_
    refine bodyQ.of _ rfl [.bool (decide (¬ ((((ng + 2 : Nat) : Int).tdiv 2) = o.N)))] ⟨rfl, trivial⟩ ?_
    have hq0 : ¬ xs = [] := by intro e; rw [e] at pe; simp at pe; omega
    have hM : evP c l xs o.V = l := by unfold evP; rw [if_neg hq0]
    rw [hM]
    refine ⟨_, a34, c35, rfl, Bp.of Bp.dec (by first | exact Iff.rfl | (constructor <;> intro h <;> omega)), ?_⟩
    rw [pe]
    exact (hp40.sub (.cons _ (.cons_cons _ (.cons_cons _ (.cons_cons _ (.cons_cons _ (.cons_cons _ (.cons_cons _ (.refl _)))))))))

theorem e17_Each (w0 : World) (L : List Res) (b mb gb pb ob : Nat) (c : GConfig) (o : Gsherdlaw17_Op) (w : World) (l : List (Int × Int)) (cs : List Bool) (ls : List Int) (hrel : RelP c l cs ls) (hN : c.N ≤ 255) (hp0 : Hp w0 Non (Res.row b [.int .i64 c.N, .int .i64 c.K, .int .i64 c.Delta, .map (some mb)] 98 :: Res.mp mb kI vI l :: Res.row gb [.slice none 0 0] 24 :: Res.own 3 1 (.slice none 0 0) 0 (List.flatMap (fun (y : Int) => [Go.Value.int .i64 y]) ([] : List Int)) :: Res.row pb [.pointer (some ⟨b, 0, none⟩)] 42 :: Res.row ob [.int .i64 o.Kind, .int .i64 o.P, .int .i64 o.Server, .int .i64 o.V, .int .i64 o.N] 52 :: L) w) :
    Calls Try.prog 97 #[.pointer (some ⟨b, 0, none⟩), .func (.func 98) #[] #[.pointer (some ⟨gb, 0, none⟩), .pointer (some ⟨pb, 0, none⟩), .pointer (some ⟨ob, 0, none⟩)]] w (fun r_ w' => r_ = .returned (.tuple #[]) ∧ ∃ a_ c_, Hp w0 Non (Res.own 3 1 (.slice a_ ((wantP ls (servQ cs true) o.N).length) c_) ((wantP ls (servQ cs true) o.N).length) (List.flatMap (fun (y : Int) => [Go.Value.int .i64 y]) (wantP ls (servQ cs true) o.N)) :: Res.row gb [.slice a_ ((wantP ls (servQ cs true) o.N).length) c_] 24 :: Res.row pb [.pointer (some ⟨b, 0, none⟩)] 42 :: Res.row ob [.int .i64 o.Kind, .int .i64 o.P, .int .i64 o.Server, .int .i64 o.V, .int .i64 o.N] 52 :: Res.row b [.int .i64 c.N, .int .i64 c.K, .int .i64 c.Delta, .map (some mb)] 98 :: Res.mp mb kI vI (eachP c cs l o.V) :: L) w') := by
  have hlen := hrel.len
  have hsv := servT_le cs true cs.length
  have hsq : servT cs true cs.length = servQ cs true := rfl
  rw [hsq, hrel.n1] at hsv
  refine calls_of Try.func97 rfl 49 rfl (by simp) ?_
  have he0 : List.map (env0 [.pointer (some ⟨b, 0, none⟩), .func (.func 98) #[] #[.pointer (some ⟨gb, 0, none⟩), .pointer (some ⟨pb, 0, none⟩), .pointer (some ⟨ob, 0, none⟩)]]) [0, 1] = [.pointer (some ⟨b, 0, none⟩), .func (.func 98) #[] #[.pointer (some ⟨gb, 0, none⟩), .pointer (some ⟨pb, 0, none⟩), .pointer (some ⟨ob, 0, none⟩)]] := by kernel_rfl
  obtain ⟨b0, he0⟩ := toMk he0
  rw [he0]
  clear he0
  refine WP.seq ?_
  refine WP.seq ?_
  refine WP.pure { wraps := [14] } [] [0, 1, 14] [.pointer (some ⟨b, 0, none⟩), .func (.func 98) #[] #[.pointer (some ⟨gb, 0, none⟩), .pointer (some ⟨pb, 0, none⟩), .pointer (some ⟨ob, 0, none⟩)], .bool false] .nil (by kernel_rfl) (fun b1 => ?_)
  refine thn_n ?_
  refine WP.condF rfl ?_
  refine WP.skip ?_
  refine thn_n ?_
  refine WP.seq ?_
  refine WP.pure {} [] [0, 1, 4] [.pointer (some ⟨b, 0, none⟩), .func (.func 98) #[] #[.pointer (some ⟨gb, 0, none⟩), .pointer (some ⟨pb, 0, none⟩), .pointer (some ⟨ob, 0, none⟩)], .slice none 0 0] .nil (by kernel_rfl) (fun b2 => ?_)
  refine thn_n ?_
  refine WP.seq ?_
  refine WP.seq ?_
  refine WP.region _ rfl (by kernel_rfl) ?_
  refine OPS.batch 4 {} [.map (some mb)] [0, 1, 4, 18] [.pointer (some ⟨b, 0, none⟩), .func (.func 98) #[] #[.pointer (some ⟨gb, 0, none⟩), .pointer (some ⟨pb, 0, none⟩), .pointer (some ⟨ob, 0, none⟩)], .slice none 0 0, .map (some mb)] (.cons (Ld.row1 (P := Try.prog) (t := 96) (o := 3) (v := .map (some mb)) hp0.get0 (by kernel_rfl)) .nil) (by kernel_rfl) (fun b3 => ?_)
  have hp6 := hp0.pull1
  refine OPS.cons (opStep.rangeM (by exact Try.underlying96) hp6 (by kernel_rfl) (fun it7 w4 hp5 => ?_))
  refine OPS.nil ?_
  refine thn_n ?_
  refine WP.block ?_
  have hp8 := (show Hp w0 Non (Res.own 3 1 (.slice none 0 0) 0 (List.flatMap (fun (y : Int) => [Go.Value.int .i64 y]) ([] : List Int)) :: Res.mpi mb it7 kI vI l ([] : List Nat) :: Res.row b [.int .i64 c.N, .int .i64 c.K, .int .i64 c.Delta, .map (some mb)] 98 :: Res.row gb [.slice none 0 0] 24 :: Res.own 3 1 (.slice none 0 0) 0 (List.flatMap (fun (y : Int) => [Go.Value.int .i64 y]) ([] : List Int)) :: Res.row pb [.pointer (some ⟨b, 0, none⟩)] 42 :: Res.row ob [.int .i64 o.Kind, .int .i64 o.P, .int .i64 o.Server, .int .i64 o.V, .int .i64 o.N] 52 :: L) w4 from hp5.nilOwn 3 1)
  refine WP.loop (fun mz_ e9 w10 => ∃ (dn : List Nat) (xs : List Int) (ao : Option Addr) (no : Nat) (co : Nat), mz_ = l.length - dn.length ∧ (xs = dn.map (fun i => (l[i]!).1) ∧ True) ∧ List.map e9 [0, 1, 4, 19] = [.pointer (some ⟨b, 0, none⟩), .func (.func 98) #[] #[.pointer (some ⟨gb, 0, none⟩), .pointer (some ⟨pb, 0, none⟩), .pointer (some ⟨ob, 0, none⟩)], .slice ao no co, .pointer (some ⟨it7, 0, none⟩)] ∧ Hp w0 Non (Res.own 3 1 (.slice ao no co) no (List.flatMap (fun (y : Int) => [Go.Value.int .i64 y]) xs) :: Res.mpi mb it7 kI vI l dn :: Res.row b [.int .i64 c.N, .int .i64 c.K, .int .i64 c.Delta, .map (some mb)] 98 :: Res.row gb [.slice none 0 0] 24 :: Res.own 3 1 (.slice none 0 0) 0 (List.flatMap (fun (y : Int) => [Go.Value.int .i64 y]) ([] : List Int)) :: Res.row pb [.pointer (some ⟨b, 0, none⟩)] 42 :: Res.row ob [.int .i64 o.Kind, .int .i64 o.P, .int .i64 o.Server, .int .i64 o.V, .int .i64 o.N] 52 :: L) w10) (l.length - ([]).length) ⟨[], [], none, 0, 0, rfl, ⟨rfl, trivial⟩, by kernel_rfl, hp8⟩ ?_
  rintro _ e9 w10 ⟨dn, xs, ao, no, co, rfl, hI12, hE13, hp11⟩
  obtain ⟨b14, rfl⟩ := toMk hE13
  clear hE13
  obtain ⟨pbx, _⟩ := hI12
  have pe := own_flat (sz := 1) (fun _ => rfl) (by decide) hp11.get0
  have pl : xs.length = dn.length := by rw [pbx, List.length_map]
  have pd := mpi_done (Hp.get (A := []) hp11.pull1)
  have pd2 := nodup_le pd.1 pd.2
  refine WP.seq ?_
  refine WP.region _ rfl (by kernel_rfl) ?_
  have hp17 := hp11.pull1
  refine OPS.cons (opStep.nextM hp17 (by kernel_rfl) (fun ha22 => ?_) (fun n18 p19 w15 hn20 hm21 hp16 => ?_))
  · have ha22d := mpi_done (Hp.get (A := []) hp17)
    have hp23 := hp17.mpiEnd
    refine OPS.batch 1 {} [] [0, 1, 4, 19, 21] [.pointer (some ⟨b, 0, none⟩), .func (.func 98) #[] #[.pointer (some ⟨gb, 0, none⟩), .pointer (some ⟨pb, 0, none⟩), .pointer (some ⟨ob, 0, none⟩)], .slice ao no co, .pointer (some ⟨it7, 0, none⟩), .bool false] .nil (by kernel_rfl) (fun b24 => ?_)
    refine OPS.nil ?_
    refine thn_n ?_
    refine WP.seq ?_
    refine WP.condF rfl ?_
    refine WP.exit ?_
    refine thn_x ?_
    refine thn_x ?_
    refine blk_hit ?_
    refine thn_n ?_
    refine WP.seq ?_
    refine WP.region _ rfl (by kernel_rfl) ?_
    refine OPS.batch 1 {} [] [0, 1, 4, 28] [.pointer (some ⟨b, 0, none⟩), .func (.func 98) #[] #[.pointer (some ⟨gb, 0, none⟩), .pointer (some ⟨pb, 0, none⟩), .pointer (some ⟨ob, 0, none⟩)], .slice ao no co, .slice ao no co] .nil (by kernel_rfl) (fun b25 => ?_)
    have hp28 := hp23.pull1
    have pev := own_flat (sz := 1) (fun _ => rfl) (by decide) hp28.get0
    refine OPS.cons (opStep.call (some 29) [.slice ao no co] (by kernel_rfl) (sort_own (l := xs) (by omega) hp28) ?_)
    rintro _ w29 ⟨rfl, hp30⟩
    refine ⟨_, rfl, ?_⟩
    have hp31 := hp30
    have hsrt := hrel.sorted ha22d.1 ha22d.2 ha22
    rw [← pbx] at hsrt
    obtain ⟨zs, hzs⟩ : ∃ zs, zs = (servQ cs true).map (fun (y : Nat) => (y : Int)) := ⟨_, rfl⟩
    have hzl := zs_len hzs
    rw [hsrt, ← hzs] at hp31
    refine OPS.nil ?_
    refine thn_n ?_
    refine WP.seq ?_
    refine WP.region _ rfl (by kernel_rfl) ?_
    refine OPS.batch 4 {} [.map (some mb)] [1, 4, 33] [.func (.func 98) #[] #[.pointer (some ⟨gb, 0, none⟩), .pointer (some ⟨pb, 0, none⟩), .pointer (some ⟨ob, 0, none⟩)], .slice ao no co, .map (some mb)] (.cons (Ld.row1 (P := Try.prog) (t := 96) (o := 3) (v := .map (some mb)) hp31.get2 (by kernel_rfl)) .nil) (by kernel_rfl) (fun b32 => ?_)
    have hp35 := hp31.pull1
    refine OPS.cons (opStep.call (some 34) [.map (some mb)] (by kernel_rfl) (clone_mp hp35) ?_)
    rintro _ w36 ⟨g38, rfl, hp37⟩
    refine ⟨_, rfl, ?_⟩
    refine OPS.batch 1 {} [] [1, 4, 6] [.func (.func 98) #[] #[.pointer (some ⟨gb, 0, none⟩), .pointer (some ⟨pb, 0, none⟩), .pointer (some ⟨ob, 0, none⟩)], .slice ao no co, .map (some g38)] .nil (by kernel_rfl) (fun b39 => ?_)
    refine OPS.nil ?_
    refine thn_n ?_
    refine WP.seq ?_
    refine WP.pure {} [] [1, 6, 35, 36, 37] [.func (.func 98) #[] #[.pointer (some ⟨gb, 0, none⟩), .pointer (some ⟨pb, 0, none⟩), .pointer (some ⟨ob, 0, none⟩)], .map (some g38), .slice ao no co, .int .i64 ((no : Nat) : Int), .int .i64 0] .nil (by kernel_rfl) (fun b40 => ?_)
    refine thn_n ?_
    refine WP.block ?_
    refine WP.loop (fun mz_ e41 w42 => ∃ (k : Nat) (xs : List Int) (l2 : List (Int × Int)) (ag : Option Addr) (ng : Nat) (cg : Nat), mz_ = zs.length - k ∧ (k ≤ zs.length ∧ xs = flatP ls ((servQ cs true).take k) ∧ (l2 = if k = 0 then l else ansP c l o.V 4444) ∧ ¬ (1 ≤ o.N ∧ o.N ≤ (k : Int))) ∧ List.map e41 [1, 6, 35, 36, 37] = [.func (.func 98) #[] #[.pointer (some ⟨gb, 0, none⟩), .pointer (some ⟨pb, 0, none⟩), .pointer (some ⟨ob, 0, none⟩)], .map (some g38), .slice ao no co, .int .i64 ((no : Nat) : Int), .int .i64 (k : Int)] ∧ Hp w0 Non (Res.own 3 1 (.slice ag ng cg) ng (List.flatMap (fun (y : Int) => [Go.Value.int .i64 y]) xs) :: Res.row gb [.slice ag ng cg] 24 :: Res.mp mb kI vI l2 :: Res.mp g38 kI vI l :: Res.own 3 1 (.slice ao no co) no (List.flatMap (fun (y : Int) => [Go.Value.int .i64 y]) zs) :: Res.row b [.int .i64 c.N, .int .i64 c.K, .int .i64 c.Delta, .map (some mb)] 98 :: Res.row pb [.pointer (some ⟨b, 0, none⟩)] 42 :: Res.row ob [.int .i64 o.Kind, .int .i64 o.P, .int .i64 o.Server, .int .i64 o.V, .int .i64 o.N] 52 :: L) w42) (zs.length - (0)) ⟨0, [], l, none, 0, 0, rfl, ⟨by omega, rfl, rfl, by omega⟩, by kernel_rfl, (((((((((hp37.pull7).pull7).pull5).pull5).pull4).pull5).pull6).pull7).sub (.cons_cons _ (.cons_cons _ (.cons_cons _ (.cons_cons _ (.cons_cons _ (.cons_cons _ (.cons_cons _ (.cons_cons _ (.refl _))))))))))⟩ ?_
    rintro _ e41 w42 ⟨k, xs, l2, ag, ng, cg, rfl, hI44, hE45, hp43⟩
    obtain ⟨b46, rfl⟩ := toMk hE45
    clear hE45
    obtain ⟨pa, qb, qc, pn⟩ := hI44
    have pe := own_flat (sz := 1) (fun _ => rfl) (by decide) hp43.get0
    have pl := flatP_len ls ((servQ cs true).take k)
    rw [← qb, List.length_take] at pl
    have ptd2 : (((xs.length : Nat) : Int) + 2).tdiv 2 = (((xs.length : Nat) : Int) + 2) / 2 := Int.tdiv_eq_ediv_of_nonneg (by omega)
    have pz := own_flat (sz := 1) (fun _ => rfl) (by decide) hp43.get4
    refine WP.seq ?_
    refine WP.pure {} [] [1, 6, 35, 36, 37, 38] [.func (.func 98) #[] #[.pointer (some ⟨gb, 0, none⟩), .pointer (some ⟨pb, 0, none⟩), .pointer (some ⟨ob, 0, none⟩)], .map (some g38), .slice ao no co, .int .i64 ((no : Nat) : Int), .int .i64 (k : Int), .bool (decide ((k : Int) < ((no : Nat) : Int)))] .nil (by kernel_rfl) (fun b47 => ?_)
    refine thn_n ?_
    refine WP.seq ?_
    refine WP.test (p := (k : Int) < ((no : Nat) : Int)) rfl Bp.dec (fun h48 => ?_) (fun h48 => ?_)
    · refine WP.skip ?_
      refine thn_n ?_
      refine WP.seq ?_
      refine WP.block ?_
      refine WP.seq ?_
      have := own_flat (sz := 1) (fun _ => rfl) (by decide) hp43.get4
      have hy50 : (zs)[k]? = some zs[k]! := get_bang (by first | (omega) | (simp only [List.length_append, List.length_cons, List.length_nil]; omega) | (simp only [List.length_take, List.length_append, List.length_cons, List.length_nil]; omega))
      refine WP.pure {} [.int .i64 (zs[k]!)] [1, 6, 8, 35, 36, 37] [.func (.func 98) #[] #[.pointer (some ⟨gb, 0, none⟩), .pointer (some ⟨pb, 0, none⟩), .pointer (some ⟨ob, 0, none⟩)], .map (some g38), .int .i64 (zs[k]!), .slice ao no co, .int .i64 ((no : Nat) : Int), .int .i64 (k : Int)] (.cons (show InB ((k : Int)) (no) from ⟨by omega, by omega⟩) (.cons ((SlR.own (hp43.get4)).some (by omega)) (.cons (Ld.add0 (Ld.el1 (P := Try.prog) (t := 3) (SlR.own (hp43.get4)).rd 1 (fun _ => rfl) hy50 (o := 0) (v := .int .i64 (zs[k]!)) (by kernel_rfl))) .nil))) (by kernel_rfl) (fun b51 => ?_)
      refine thn_n ?_
      refine WP.seq ?_
      refine WP.region _ rfl (by kernel_rfl) ?_
      refine OPS.batch 5 {} [.int .i64 ((mapV l (zs[k]!)).getD 0)] [1, 6, 35, 36, 37, 41, 42, 45] [.func (.func 98) #[] #[.pointer (some ⟨gb, 0, none⟩), .pointer (some ⟨pb, 0, none⟩), .pointer (some ⟨ob, 0, none⟩)], .map (some g38), .slice ao no co, .int .i64 ((no : Nat) : Int), .int .i64 (k : Int), .func (.func 98) #[] #[.pointer (some ⟨gb, 0, none⟩), .pointer (some ⟨pb, 0, none⟩), .pointer (some ⟨ob, 0, none⟩)], .int .i64 (zs[k]!), .int .i64 ((mapV l (zs[k]!)).getD 0)] (.cons (Lk.noD (vf := vI) (keyInt (by exact Try.underlying3)) (by exact Try.underlying96) hp43.get3 (zs[k]!) 0 (by kernel_rfl)) .nil) (by kernel_rfl) (fun b52 => ?_)
      have hp55 := hp43.pull2
      have hp56 := hp55.pull5
      have hp57 := hp56.pull7
      have hp58 := hp57.pull7
      have hp59 := hp58.pull5
      have hp60 := hp59.pull5
      refine OPS.cons (opStep.callV (some 46) [.int .i64 (zs[k]!), .int .i64 ((mapV l (zs[k]!)).getD 0), .pointer (some ⟨gb, 0, none⟩), .pointer (some ⟨pb, 0, none⟩), .pointer (some ⟨ob, 0, none⟩)] rfl (by kernel_rfl) (e17_1 _ _ b mb gb pb ob c o _ _ _ _ xs l2 (zs[k]!) ((mapV l (zs[k]!)).getD 0) (by omega) hp60) ?_)
      rintro _ w61 ⟨b63, a65, c66, rfl, hb64, hp62⟩
      refine ⟨_, rfl, ?_⟩
      refine OPS.batch 1 {} [] [1, 6, 35, 36, 37, 47] [.func (.func 98) #[] #[.pointer (some ⟨gb, 0, none⟩), .pointer (some ⟨pb, 0, none⟩), .pointer (some ⟨ob, 0, none⟩)], .map (some g38), .slice ao no co, .int .i64 ((no : Nat) : Int), .int .i64 (k : Int), .bool (!b63)] .nil (by kernel_rfl) (fun b67 => ?_)
      refine OPS.nil ?_
      refine thn_n ?_
      refine WP.test (p := ¬ (¬ (((xs.length : Nat) : Int) + 2).tdiv 2 = o.N)) rfl (Bp.not hb64) (fun h68 => ?_) (fun h68 => ?_)
      · refine WP.ret ?_
        refine blk_r ?_
        refine thn_r ?_
        refine thn_r ?_
        refine blk_r ?_
        refine bodyQ.of _ rfl [] trivial ?_
        have hw : wantP ls (servQ cs true) o.N = xs ++ [zs[k]!, ((mapV l (zs[k]!)).getD 0)] := by rw [want_stop (k := k) (by omega) (by omega), each_step hrel hzs (by omega) qb]
        have hm := ev_stop (cs := cs) (k := k) (by omega) (ev_step (by omega) qb qc)
        have pe2 := own_flat (sz := 1) (fun _ => rfl) (by decide) hp62.get0
        rw [hw, ← hm, pe2]
        exact ⟨rfl, _, _, (hp62.sub (.cons_cons _ (.cons_cons _ (.cons_cons _ (.cons_cons _ (.cons_cons _ (.cons_cons _ (.cons _ (.cons _ (.refl _))))))))))⟩
      · replace h68 := Classical.not_not.1 h68
        refine WP.skip ?_
        refine blk_n ?_
        refine thn_n ?_
        refine WP.pure {} [] [1, 6, 35, 36, 37] [.func (.func 98) #[] #[.pointer (some ⟨gb, 0, none⟩), .pointer (some ⟨pb, 0, none⟩), .pointer (some ⟨ob, 0, none⟩)], .map (some g38), .slice ao no co, .int .i64 ((no : Nat) : Int), .int .i64 ((k : Int) + 1)] (.cons (show Rng .i64 ((k : Int) + 1) from Rng.i64 (by omega)) .nil) (by kernel_rfl) (fun b69 => ?_)
        refine thn_n ?_
        exact ⟨zs.length - (k + 1), (by omega), k + 1, xs ++ [zs[k]!, ((mapV l (zs[k]!)).getD 0)], evP c l2 xs o.V, a65, xs.length + 2, c66, rfl, ⟨by omega, each_step hrel hzs (by omega) qb, ev_step (by omega) qb qc, by omega⟩, by kernel_rfl, (((((((((hp62.pull3).pull3).pull4).pull7).pull7).pull7).pull7).pull7).sub (.cons_cons _ (.cons_cons _ (.cons_cons _ (.cons_cons _ (.cons_cons _ (.cons_cons _ (.cons_cons _ (.cons_cons _ (.refl _))))))))))⟩
    · refine WP.exit ?_
      refine thn_x ?_
      refine thn_x ?_
      refine blk_hit ?_
      refine bodyQ.ofN ?_
      refine bodyQ.of _ rfl [] trivial ?_
      have hk : k = zs.length := by omega
      have hw : wantP ls (servQ cs true) o.N = xs := by rw [want_end (by omega), qb, List.take_of_length_le (by omega)]
      have hm := ev_end (cs := cs) (by omega) qc
      have pe2 := own_flat (sz := 1) (fun _ => rfl) (by decide) hp43.get0
      rw [hw, ← hm, pe2]
      exact ⟨rfl, _, _, (((((((hp43.pull2).pull5).pull7).pull7).pull5).pull5).sub (.cons_cons _ (.cons_cons _ (.cons_cons _ (.cons_cons _ (.cons_cons _ (.cons_cons _ (.cons _ (.cons _ (.refl _))))))))))⟩
  · refine OPS.batch 1 {} [] [0, 1, 4, 19, 21] [.pointer (some ⟨b, 0, none⟩), .func (.func 98) #[] #[.pointer (some ⟨gb, 0, none⟩), .pointer (some ⟨pb, 0, none⟩), .pointer (some ⟨ob, 0, none⟩)], .slice ao no co, .pointer (some ⟨it7, 0, none⟩), .bool true] .nil (by kernel_rfl) (fun b70 => ?_)
    refine OPS.nil ?_
    refine thn_n ?_
    refine WP.seq ?_
    refine WP.condT rfl ?_
    refine WP.skip ?_
    refine thn_n ?_
    refine WP.block ?_
    refine WP.seq ?_
    refine WP.region _ rfl (by kernel_rfl) ?_
    have hp73 := hp16.pull0
    refine OPS.cons (opStep.entryM hp73 hn20 (by kernel_rfl) ?_)
    refine OPS.batch 2 {} [] [0, 1, 4, 5, 19] [.pointer (some ⟨b, 0, none⟩), .func (.func 98) #[] #[.pointer (some ⟨gb, 0, none⟩), .pointer (some ⟨pb, 0, none⟩), .pointer (some ⟨ob, 0, none⟩)], .slice ao no co, .int .i64 p19.1, .pointer (some ⟨it7, 0, none⟩)] .nil (by kernel_rfl) (fun b74 => ?_)
    refine OPS.nil ?_
    refine thn_n ?_
    refine WP.region _ rfl (by kernel_rfl) ?_
    refine OPS.batch 2 {} [] [0, 1, 19, 24, 25] [.pointer (some ⟨b, 0, none⟩), .func (.func 98) #[] #[.pointer (some ⟨gb, 0, none⟩), .pointer (some ⟨pb, 0, none⟩), .pointer (some ⟨ob, 0, none⟩)], .pointer (some ⟨it7, 0, none⟩), .slice ao no co, .int .i64 p19.1] .nil (by kernel_rfl) (fun b75 => ?_)
    refine OPS.cons (opStep.buildSlice (E := 3) hp73 [.int .i64 p19.1] (by kernel_rfl) (fun g78 w76 hp77 => ?_))
    refine OPS.cons (opStep.append2 [.int .i64 p19.1] hp77 8 (by kernel_rfl) rfl rfl rfl (SlR.row (n := 1) hp77.get0 rfl).rd (List.all_eq_true.1 (by kernel_rfl)) (by decide) (by omega) (by omega) (fun a81 c82 w83 hp84 hn85 => ?_))
    rw [(show List.flatMap (fun (y : Int) => [Go.Value.int .i64 y]) xs ++ [.int .i64 p19.1] = List.flatMap (fun (y : Int) => [Go.Value.int .i64 y]) (xs ++ [p19.1]) from (List.flatMap_append (xs := xs) (ys := [p19.1])).symm)] at hp84
    refine OPS.batch 1 {} [] [0, 1, 4, 19] [.pointer (some ⟨b, 0, none⟩), .func (.func 98) #[] #[.pointer (some ⟨gb, 0, none⟩), .pointer (some ⟨pb, 0, none⟩), .pointer (some ⟨ob, 0, none⟩)], .slice a81 (no + 1) c82, .pointer (some ⟨it7, 0, none⟩)] .nil (by kernel_rfl) (fun b86 => ?_)
    refine OPS.nil ?_
    refine blk_n ?_
    refine thn_n ?_
    have hd_ := mpi_done (Hp.get (A := []) hp84.pull1)
    have hd2_ := nodup_le hd_.1 hd_.2
    exact ⟨l.length - ((dn ++ [n18])).length, (by simp only [List.length_append, List.length_cons, List.length_nil] at *; omega), (dn ++ [n18]), xs ++ [p19.1], a81, no + 1, c82, rfl, ⟨dn_snoc pbx hn20, trivial⟩, by kernel_rfl, ((((((((hp84.pull7).pull7).pull7).pull7).pull7).pull6).pull7).sub (.cons_cons _ (.cons_cons _ (.cons_cons _ (.cons_cons _ (.cons_cons _ (.cons_cons _ (.cons_cons _ (.cons _ (.refl _))))))))))⟩

theorem e17_Each_nil (f : Go.Value) (w : World) :
    Calls Try.prog 97 #[.pointer none, f] w (fun r_ w' => r_ = .returned (.tuple #[]) ∧ Fram Non w w') := by
  refine calls_of Try.func97 rfl 49 rfl (by simp) ?_
  have hp0 := Hp.init w
  have he0 : List.map (env0 [.pointer none, f]) [0, 1] = [.pointer none, f] := by kernel_rfl
  obtain ⟨b0, he0⟩ := toMk he0
  rw [he0]
  clear he0
  refine WP.seq ?_
  refine WP.seq ?_
  refine WP.pure { wraps := [14] } [] [0, 1, 14] [.pointer none, f, .bool true] .nil (by kernel_rfl) (fun b1 => ?_)
  refine thn_n ?_
  refine WP.condT rfl ?_
  refine WP.ret ?_
  refine thn_r ?_
  refine bodyQ.of _ rfl [] trivial ?_
  exact ⟨by rfl, hp0.fr⟩

theorem e17_each (w0 : World) (L : List Res) (b mb : Nat) (c : GConfig) (o : Gsherdlaw17_Op) (w : World) (l : List (Int × Int)) (cs : List Bool) (ls : List Int) (hrel : RelP c l cs ls) (hN : c.N ≤ 255) (hp0 : Hp w0 Non (Res.row b [.int .i64 c.N, .int .i64 c.K, .int .i64 c.Delta, .map (some mb)] 98 :: Res.mp mb kI vI l :: L) w) :
    Calls Try.prog 58 #[.pointer (some ⟨b, 0, none⟩), Gsherdlaw17_Op.val o] w (fun r_ w' => ∃ a_ c_, r_ = .returned (.slice a_ (wantP ls (servQ cs true) o.N).length c_) ∧ Hp w0 Non (Res.own 3 1 (.slice a_ ((wantP ls (servQ cs true) o.N).length) c_) ((wantP ls (servQ cs true) o.N).length) (List.flatMap (fun (y : Int) => [Go.Value.int .i64 y]) (wantP ls (servQ cs true) o.N)) :: Res.row b [.int .i64 c.N, .int .i64 c.K, .int .i64 c.Delta, .map (some mb)] 98 :: Res.mp mb kI vI (eachP c cs l o.V) :: L) w') := by
  refine calls_of Try.func58 rfl 10 rfl (by simp) ?_
  have he0 : List.map (env0 [.pointer (some ⟨b, 0, none⟩), Gsherdlaw17_Op.val o]) [0, 1] = [.pointer (some ⟨b, 0, none⟩), Gsherdlaw17_Op.val o] := by kernel_rfl
  obtain ⟨b0, he0⟩ := toMk he0
  rw [he0]
  clear he0
  refine WP.seq ?_
  refine WP.region _ rfl (by kernel_rfl) ?_
  refine OPS.cons (opStep.box hp0 [.pointer (some ⟨b, 0, none⟩)] (by kernel_rfl) (fun g3 w1 hp2 => ?_))
  refine OPS.cons (opStep.box hp2 [.int .i64 o.Kind, .int .i64 o.P, .int .i64 o.Server, .int .i64 o.V, .int .i64 o.N] (by kernel_rfl) (fun g6 w4 hp5 => ?_))
  refine OPS.batch 1 {} [] [2, 3] [.pointer (some ⟨g3, 0, none⟩), .pointer (some ⟨g6, 0, none⟩)] .nil (by kernel_rfl) (fun b7 => ?_)
  refine OPS.nil ?_
  refine thn_n ?_
  refine WP.seq ?_
  refine WP.region _ rfl (by kernel_rfl) ?_
  refine OPS.cons (opStep.alloc hp5 [.slice none 0 0] (by kernel_rfl) (fun g10 w8 hp9 => ?_))
  refine OPS.nil ?_
  refine thn_n ?_
  refine WP.seq ?_
  refine WP.region _ rfl (by kernel_rfl) ?_
  refine OPS.batch 2 {} [.pointer (some ⟨b, 0, none⟩)] [5, 6, 7] [.pointer (some ⟨g10, 0, none⟩), .pointer (some ⟨b, 0, none⟩), .func (.func 98) #[] #[.pointer (some ⟨g10, 0, none⟩), .pointer (some ⟨g3, 0, none⟩), .pointer (some ⟨g6, 0, none⟩)]] (.cons (Ld.row1 (P := Try.prog) (t := 42) (o := 0) (v := .pointer (some ⟨b, 0, none⟩)) hp9.get2 (by kernel_rfl)) .nil) (by kernel_rfl) (fun b11 => ?_)
  have hp14 := (show Hp w0 Non (Res.own 3 1 (.slice none 0 0) 0 (List.flatMap (fun (y : Int) => [Go.Value.int .i64 y]) ([] : List Int)) :: Res.row g10 [.slice none 0 0] 24 :: Res.row g6 [.int .i64 o.Kind, .int .i64 o.P, .int .i64 o.Server, .int .i64 o.V, .int .i64 o.N] 52 :: Res.row g3 [.pointer (some ⟨b, 0, none⟩)] 42 :: Res.row b [.int .i64 c.N, .int .i64 c.K, .int .i64 c.Delta, .map (some mb)] 98 :: Res.mp mb kI vI l :: L) w8 from hp9.nilOwn 3 1)
  have hp15 := hp14.pull2
  have hp16 := hp15.pull3
  have hp17 := hp16.pull2
  have hp18 := hp17.pull3
  have hp19 := hp18.pull5
  have hp20 := hp19.pull5
  refine OPS.cons (opStep.call (some 8) [.pointer (some ⟨b, 0, none⟩), .func (.func 98) #[] #[.pointer (some ⟨g10, 0, none⟩), .pointer (some ⟨g3, 0, none⟩), .pointer (some ⟨g6, 0, none⟩)]] (by kernel_rfl) (e17_Each _ _ b mb g10 g3 g6 c o _ l cs ls hrel (by omega) hp20) ?_)
  rintro _ w21 ⟨rfl, a23, c24, hp22⟩
  refine ⟨_, rfl, ?_⟩
  refine OPS.nil ?_
  refine thn_n ?_
  refine WP.seq ?_
  refine WP.pure {} [.slice a23 ((wantP ls (servQ cs true) o.N).length) c24] [4] [.slice a23 ((wantP ls (servQ cs true) o.N).length) c24] (.cons (Ld.row1 (P := Try.prog) (t := 24) (o := 0) (v := .slice a23 ((wantP ls (servQ cs true) o.N).length) c24) hp22.get1 (by kernel_rfl)) .nil) (by kernel_rfl) (fun b25 => ?_)
  refine thn_n ?_
  refine WP.ret ?_
  refine bodyQ.of _ rfl [.slice a23 ((wantP ls (servQ cs true) o.N).length) c24] ⟨rfl, trivial⟩ ?_
  exact ⟨_, _, rfl, (hp22.sub (.cons_cons _ (.cons _ (.cons _ (.cons _ (.cons_cons _ (.cons_cons _ (.refl _))))))))⟩

theorem e17_each_nil (o : Gsherdlaw17_Op) (w : World) :
    Calls Try.prog 58 #[.pointer none, Gsherdlaw17_Op.val o] w (fun r_ w' => r_ = .returned (.slice none 0 0) ∧ Fram Non w w') := by
  refine calls_of Try.func58 rfl 10 rfl (by simp) ?_
  have hp0 := Hp.init w
  have he0 : List.map (env0 [.pointer none, Gsherdlaw17_Op.val o]) [0, 1] = [.pointer none, Gsherdlaw17_Op.val o] := by kernel_rfl
  obtain ⟨b0, he0⟩ := toMk he0
  rw [he0]
  clear he0
  refine WP.seq ?_
  refine WP.region _ rfl (by kernel_rfl) ?_
  refine OPS.cons (opStep.box hp0 [.pointer none] (by kernel_rfl) (fun g3 w1 hp2 => ?_))
  refine OPS.cons (opStep.box hp2 [.int .i64 o.Kind, .int .i64 o.P, .int .i64 o.Server, .int .i64 o.V, .int .i64 o.N] (by kernel_rfl) (fun g6 w4 hp5 => ?_))
  refine OPS.batch 1 {} [] [2, 3] [.pointer (some ⟨g3, 0, none⟩), .pointer (some ⟨g6, 0, none⟩)] .nil (by kernel_rfl) (fun b7 => ?_)
  refine OPS.nil ?_
  refine thn_n ?_
  refine WP.seq ?_
  refine WP.region _ rfl (by kernel_rfl) ?_
  refine OPS.cons (opStep.alloc hp5 [.slice none 0 0] (by kernel_rfl) (fun g10 w8 hp9 => ?_))
  refine OPS.nil ?_
  refine thn_n ?_
  refine WP.seq ?_
  refine WP.region _ rfl (by kernel_rfl) ?_
  refine OPS.batch 2 {} [.pointer none] [5, 6, 7] [.pointer (some ⟨g10, 0, none⟩), .pointer none, .func (.func 98) #[] #[.pointer (some ⟨g10, 0, none⟩), .pointer (some ⟨g3, 0, none⟩), .pointer (some ⟨g6, 0, none⟩)]] (.cons (Ld.row1 (P := Try.prog) (t := 42) (o := 0) (v := .pointer none) hp9.get2 (by kernel_rfl)) .nil) (by kernel_rfl) (fun b11 => ?_)
  refine OPS.cons (opStep.call (some 8) [.pointer none, .func (.func 98) #[] #[.pointer (some ⟨g10, 0, none⟩), .pointer (some ⟨g3, 0, none⟩), .pointer (some ⟨g6, 0, none⟩)]] (by kernel_rfl) (e17_Each_nil _ _) ?_)
  rintro _ w14 ⟨rfl, hf15⟩
  refine ⟨_, rfl, ?_⟩
  have hp16 := hp9.step hf15
  refine OPS.nil ?_
  refine thn_n ?_
  refine WP.seq ?_
  refine WP.pure {} [.slice none 0 0] [4] [.slice none 0 0] (.cons (Ld.row1 (P := Try.prog) (t := 24) (o := 0) (v := .slice none 0 0) hp16.get0 (by kernel_rfl)) .nil) (by kernel_rfl) (fun b17 => ?_)
  refine thn_n ?_
  refine WP.ret ?_
  refine bodyQ.of _ rfl [.slice none 0 0] ⟨rfl, trivial⟩ ?_
  exact ⟨rfl, hp16.fr⟩

end Go.Proofs.Ytgpjpcemfaignaa.K
