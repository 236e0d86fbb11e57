/- The walks of StbA: what each function computes. -/
import Derived.Test.YtdahgdkadfdkeaaProg
import Derived.Test.YtdahgdkadfdkeaaCoreO
import Derived.Test.YtdahgdkadfdkeaaStbR
namespace Go.Proofs.Ytdahgdkadfdkeaa.K
open Go Go.Proofs Go.RowKit
set_option linter.unusedVariables false
set_option linter.unusedSimpArgs false
set_option maxRecDepth 20000
set_option maxHeartbeats 4000000

abbrev OwI (sa : Option Addr) (sn sc : Nat) (l : List Int) : Res := Res.own 3 1 (.slice sa sn sc) sn (List.flatMap (fun (y : Int) => [Go.Value.int .i64 y]) l)
/-- What is asked of 'less', and of what swaps. -/
def LessOk (w0 : World) (L : List Res) (g : FuncId) (c1 c2 : Go.Value) (sa : Option Addr) (sn sc : Nat) (l0 : List Int) (lt : Int → Int → Prop) : Prop :=
  (∀ args w, (callFunc g args).run Try.prog w = .ok (.enter g args) w) ∧ ∀ (l : List Int) (X : List Res) (w : World) (i j : Nat), l.Perm l0 → i < sn → j < sn → Hp w0 Non (OwI sa sn sc l :: (X ++ L)) w →
    Calls Try.prog g #[.int .i64 (i : Int), .int .i64 (j : Int), c1, c2] w fun x w' => ∃ f, x = .returned (.bool f) ∧ Bp f (lt l[i]! l[j]!) ∧ Hp w0 Non (OwI sa sn sc l :: (X ++ L)) w'
def SwapOk (w0 : World) (L : List Res) (sf : FuncId) (s1 s2 : Go.Value) (sa : Option Addr) (sn sc : Nat) (l0 : List Int) : Prop :=
  ∀ (l : List Int) (X : List Res) (w : World) (i j : Nat), l.Perm l0 → i < sn → j < sn → Hp w0 Non (OwI sa sn sc l :: (X ++ L)) w →
    ∃ w', (callFunc sf #[.int .i64 (i : Int), .int .i64 (j : Int), s1, s2]).run Try.prog w = .ok (.value (.tuple #[])) w' ∧ Hp w0 Non (OwI sa sn sc (swp l i j) :: (X ++ L)) w'
theorem app_cons {r : Res} {X L : List Res} : X ++ (r :: L) = (X ++ [r]) ++ L := by simp
theorem LessOk.app {w0 : World} {L : List Res} {g : FuncId} {c1 c2 : Go.Value} {sa : Option Addr} {sn sc : Nat} {l0 : List Int} {lt : Int → Int → Prop} (h : LessOk w0 L g c1 c2 sa sn sc l0 lt) (r : Res) : LessOk w0 (r :: L) g c1 c2 sa sn sc l0 lt := ⟨h.1, fun l X w i j h1 h2 h3 hp => by
  rw [app_cons] at hp ⊢; exact h.2 l (X ++ [r]) w i j h1 h2 h3 hp⟩
theorem SwapOk.app {w0 : World} {L : List Res} {sf : FuncId} {s1 s2 : Go.Value} {sa : Option Addr} {sn sc : Nat} {l0 : List Int} (h : SwapOk w0 L sf s1 s2 sa sn sc l0) (r : Res) : SwapOk w0 (r :: L) sf s1 s2 sa sn sc l0 := fun l X w i j h1 h2 h3 hp => by
  rw [app_cons] at hp ⊢; exact h l (X ++ [r]) w i j h1 h2 h3 hp

theorem st_swapRange (w0 : World) (g sf : FuncId) (c1 c2 s1 s2 : Go.Value) (sa : Option Addr) (sn sc : Nat) (l0 : List Int) (lt R : Int → Int → Prop) (hcm : Cm l0 lt R) (hn0 : l0.length = sn) (hnb : sn ≤ 8796093022207) (L : List Res) (hless : LessOk w0 L g c1 c2 sa sn sc l0 lt) (hswap : SwapOk w0 L sf s1 s2 sa sn sc l0) (a b n : Nat) (l : List Int) (hab : a + n ≤ b) (hbn : b + n ≤ sn) (hp : l.Perm l0) (w : World) (hp0 : Hp w0 Non (Res.own 3 1 (.slice sa sn sc) sn (List.flatMap (fun (y : Int) => [Go.Value.int .i64 y]) l) :: L) w) :
    Calls Try.prog 157 #[.agg #[.func (.func g) #[] #[c1, c2], .func (.func sf) #[] #[s1, s2]], .int .i64 ((a : Nat) : Int), .int .i64 ((b : Nat) : Int), .int .i64 ((n : Nat) : Int)] w (fun r_ w' => r_ = .returned (.tuple #[]) ∧ ∃ q, (q.Perm l ∧ ∀ x, q[x]! = swrF l a b n x) ∧ Hp w0 Non (Res.own 3 1 (.slice sa sn sc) sn (List.flatMap (fun (y : Int) => [Go.Value.int .i64 y]) q) :: L) w') := by
  have hll := hp.length_eq
  refine calls_of Try.func157 rfl 23 rfl (by simp) ?_
  have he0 : List.map (env0 [.agg #[.func (.func g) #[] #[c1, c2], .func (.func sf) #[] #[s1, s2]], .int .i64 ((a : Nat) : Int), .int .i64 ((b : Nat) : Int), .int .i64 ((n : Nat) : Int)]) [0, 1, 2, 3] = [.agg #[.func (.func g) #[] #[c1, c2], .func (.func sf) #[] #[s1, s2]], .int .i64 ((a : Nat) : Int), .int .i64 ((b : Nat) : Int), .int .i64 ((n : Nat) : Int)] := by kernel_rfl
  obtain ⟨b0, he0⟩ := toMk he0
  rw [he0]
  clear he0
  refine WP.seq ?_
  refine WP.region _ rfl (by kernel_rfl) ?_
  refine OPS.cons (opStep.box hp0 [.func (.func g) #[] #[c1, c2], .func (.func sf) #[] #[s1, s2]] (by kernel_rfl) (fun g3 w1 hp2 => ?_))
  refine OPS.nil ?_
  refine thn_n ?_
  refine WP.seq ?_
  refine WP.pure {} [] [1, 2, 3, 4, 8] [.int .i64 ((a : Nat) : Int), .int .i64 ((b : Nat) : Int), .int .i64 ((n : Nat) : Int), .pointer (some ⟨g3, 0, none⟩), .int .i64 0] .nil (by kernel_rfl) (fun b4 => ?_)
  refine thn_n ?_
  refine WP.block ?_
  refine WP.loop (fun mz_ e5 w6 => ∃ (k : Nat) (q : List Int), mz_ = n - k ∧ (k ≤ n ∧ q.Perm l ∧ ∀ x, q[x]! = swrF l a b k x) ∧ List.map e5 [1, 2, 3, 4, 8] = [.int .i64 ((a : Nat) : Int), .int .i64 ((b : Nat) : Int), .int .i64 ((n : Nat) : Int), .pointer (some ⟨g3, 0, none⟩), .int .i64 ((k : Nat) : Int)] ∧ Hp w0 Non (Res.own 3 1 (.slice sa sn sc) sn (List.flatMap (fun (y : Int) => [Go.Value.int .i64 y]) q) :: Res.row g3 [.func (.func g) #[] #[c1, c2], .func (.func sf) #[] #[s1, s2]] 164 :: L) w6) (n - (0)) ⟨0, l, rfl, ⟨by omega, List.Perm.refl _, fun x => swr0 l a b x⟩, by kernel_rfl, (((hp2.pull0).pull1).sub (.cons_cons _ (.cons_cons _ (.refl _))))⟩ ?_
  rintro _ e5 w6 ⟨k, q, rfl, hI8, hE9, hp7⟩
  obtain ⟨b10, rfl⟩ := toMk hE9
  clear hE9
  obtain ⟨pa, pb, pc⟩ := hI8
  have hql := pb.trans hp
  refine WP.seq ?_
  refine WP.seq ?_
  refine WP.pure {} [] [1, 2, 3, 4, 8, 11] [.int .i64 ((a : Nat) : Int), .int .i64 ((b : Nat) : Int), .int .i64 ((n : Nat) : Int), .pointer (some ⟨g3, 0, none⟩), .int .i64 ((k : Nat) : Int), .bool (decide (((k : Nat) : Int) < ((n : Nat) : Int)))] .nil (by kernel_rfl) (fun b11 => ?_)
  refine thn_n ?_
  refine WP.test (p := ((k : Nat) : Int) < ((n : Nat) : Int)) rfl Bp.dec (fun h12 => ?_) (fun h12 => ?_)
  · refine WP.skip ?_
    refine thn_n ?_
    refine WP.seq ?_
    refine WP.block ?_
    refine WP.region _ rfl (by kernel_rfl) ?_
    refine OPS.batch 8 { subs := [18, 21] } [.func (.func sf) #[] #[s1, s2], .int .i64 ((a + k : Nat) : Int), .int .i64 ((b + k : Nat) : Int)] [1, 2, 3, 4, 8, 15, 18, 21] [.int .i64 ((a : Nat) : Int), .int .i64 ((b : Nat) : Int), .int .i64 ((n : Nat) : Int), .pointer (some ⟨g3, 0, none⟩), .int .i64 ((k : Nat) : Int), .func (.func sf) #[] #[s1, s2], .int .i64 ((a + k : Nat) : Int), .int .i64 ((b + k : Nat) : Int)] (.cons (Ld.row1 (P := Try.prog) (t := 160) (o := 1) (v := .func (.func sf) #[] #[s1, s2]) hp7.get1 (by kernel_rfl)) (.cons (show Rng .i64 (((a : Nat) : Int) + ((k : Nat) : Int)) from Rng.i64 (by omega)) (.cons (show (.int .i64 (((a : Nat) : Int) + ((k : Nat) : Int)) : Go.Value) = .int .i64 ((a + k : Nat) : Int) from congrArg (Value.int .i64) ((show ((a : Nat) : Int) + ((k : Nat) : Int) = ((a + k : Nat) : Int) by omega))) (.cons (show Rng .i64 (((b : Nat) : Int) + ((k : Nat) : Int)) from Rng.i64 (by omega)) (.cons (show (.int .i64 (((b : Nat) : Int) + ((k : Nat) : Int)) : Go.Value) = .int .i64 ((b + k : Nat) : Int) from congrArg (Value.int .i64) ((show ((b : Nat) : Int) + ((k : Nat) : Int) = ((b + k : Nat) : Int) by omega))) .nil))))) (by kernel_rfl) (fun b13 => ?_)
    have hp16 := hp7.pull0
    obtain ⟨w17, hr20, hp18⟩ := hswap q [Res.row g3 [.func (.func g) #[] #[c1, c2], .func (.func sf) #[] #[s1, s2]] 164] _ (a + k) (b + k) (show List.Perm q l0 from by first | assumption | exact hql | exact (by assumption : List.Perm q l).trans hp) (by omega) (by omega) hp16
    refine OPS.cons (opStep.callX (some 22) [.int .i64 ((a + k : Nat) : Int), .int .i64 ((b + k : Nat) : Int), s1, s2] rfl rfl hr20 ?_)
    have hp19 : Hp w0 Non (Res.own 3 1 (.slice sa sn sc) sn (List.flatMap (fun (y : Int) => [Go.Value.int .i64 y]) (swp q (a + k) (b + k))) :: Res.row g3 [.func (.func g) #[] #[c1, c2], .func (.func sf) #[] #[s1, s2]] 164 :: L) w17 := hp18
    refine OPS.nil ?_
    refine blk_n ?_
    refine thn_n ?_
    refine WP.pure { subs := [13] } [.int .i64 ((k + 1 : Nat) : Int)] [1, 2, 3, 4, 8] [.int .i64 ((a : Nat) : Int), .int .i64 ((b : Nat) : Int), .int .i64 ((n : Nat) : Int), .pointer (some ⟨g3, 0, none⟩), .int .i64 ((k + 1 : Nat) : Int)] (.cons (show Rng .i64 (((k : Nat) : Int) + 1) from Rng.i64 (by omega)) (.cons (show (.int .i64 (((k : Nat) : Int) + 1) : Go.Value) = .int .i64 ((k + 1 : Nat) : Int) from congrArg (Value.int .i64) ((show ((k : Nat) : Int) + 1 = ((k + 1 : Nat) : Int) by omega))) .nil)) (by kernel_rfl) (fun b21 => ?_)
    refine thn_n ?_
    exact ⟨n - (k + 1), (by omega), k + 1, (swp q (a + k) (b + k)), rfl, ⟨by omega, swr_step pb pc hab (by omega) (by omega)⟩, by kernel_rfl, hp19⟩
  · refine WP.exit ?_
    refine thn_x ?_
    refine thn_x ?_
    refine blk_hit ?_
    refine bodyQ.ofN ?_
    refine bodyQ.of _ rfl [] trivial ?_
    obtain rfl : k = n := by omega
    exact ⟨rfl, _, ⟨pb, pc⟩, (hp7.sub (.cons_cons _ (.cons _ (.refl _))))⟩

theorem st_rotate (w0 : World) (g sf : FuncId) (c1 c2 s1 s2 : Go.Value) (sa : Option Addr) (sn sc : Nat) (l0 : List Int) (lt R : Int → Int → Prop) (hcm : Cm l0 lt R) (hn0 : l0.length = sn) (hnb : sn ≤ 8796093022207) (L : List Res) (hless : LessOk w0 L g c1 c2 sa sn sc l0 lt) (hswap : SwapOk w0 L sf s1 s2 sa sn sc l0) (a m b : Nat) (l : List Int) (h1 : a < m) (h2 : m < b) (h3 : b ≤ sn) (hp : l.Perm l0) (w : World) (hp0 : Hp w0 Non (Res.own 3 1 (.slice sa sn sc) sn (List.flatMap (fun (y : Int) => [Go.Value.int .i64 y]) l) :: L) w) :
    Calls Try.prog 151 #[.agg #[.func (.func g) #[] #[c1, c2], .func (.func sf) #[] #[s1, s2]], .int .i64 ((a : Nat) : Int), .int .i64 ((m : Nat) : Int), .int .i64 ((b : Nat) : Int)] w (fun r_ w' => r_ = .returned (.tuple #[]) ∧ ∃ q, (q.Perm l ∧ ∀ x, q[x]! = rotF l a m b x) ∧ Hp w0 Non (Res.own 3 1 (.slice sa sn sc) sn (List.flatMap (fun (y : Int) => [Go.Value.int .i64 y]) q) :: L) w') := by
  have hll := hp.length_eq
  refine calls_of Try.func151 rfl 53 rfl (by simp) ?_
  have he0 : List.map (env0 [.agg #[.func (.func g) #[] #[c1, c2], .func (.func sf) #[] #[s1, s2]], .int .i64 ((a : Nat) : Int), .int .i64 ((m : Nat) : Int), .int .i64 ((b : Nat) : Int)]) [0, 1, 2, 3] = [.agg #[.func (.func g) #[] #[c1, c2], .func (.func sf) #[] #[s1, s2]], .int .i64 ((a : Nat) : Int), .int .i64 ((m : Nat) : Int), .int .i64 ((b : Nat) : Int)] := by kernel_rfl
  obtain ⟨b0, he0⟩ := toMk he0
  rw [he0]
  clear he0
  refine WP.seq ?_
  refine WP.region _ rfl (by kernel_rfl) ?_
  refine OPS.cons (opStep.box hp0 [.func (.func g) #[] #[c1, c2], .func (.func sf) #[] #[s1, s2]] (by kernel_rfl) (fun g3 w1 hp2 => ?_))
  refine OPS.nil ?_
  refine thn_n ?_
  refine WP.seq ?_
  refine WP.pure { subs := [12] } [.int .i64 ((m - a : Nat) : Int)] [2, 3, 4, 8] [.int .i64 ((m : Nat) : Int), .int .i64 ((b : Nat) : Int), .pointer (some ⟨g3, 0, none⟩), .int .i64 ((m - a : Nat) : Int)] (.cons (show Rng .i64 (((m : Nat) : Int) - ((a : Nat) : Int)) from Rng.i64 (by omega)) (.cons (show (.int .i64 (((m : Nat) : Int) - ((a : Nat) : Int)) : Go.Value) = .int .i64 ((m - a : Nat) : Int) from congrArg (Value.int .i64) ((show ((m : Nat) : Int) - ((a : Nat) : Int) = ((m - a : Nat) : Int) by omega))) .nil)) (by kernel_rfl) (fun b4 => ?_)
  refine thn_n ?_
  refine WP.seq ?_
  refine WP.pure { subs := [15] } [.int .i64 ((b - m : Nat) : Int)] [2, 4, 8, 9] [.int .i64 ((m : Nat) : Int), .pointer (some ⟨g3, 0, none⟩), .int .i64 ((m - a : Nat) : Int), .int .i64 ((b - m : Nat) : Int)] (.cons (show Rng .i64 (((b : Nat) : Int) - ((m : Nat) : Int)) from Rng.i64 (by omega)) (.cons (show (.int .i64 (((b : Nat) : Int) - ((m : Nat) : Int)) : Go.Value) = .int .i64 ((b - m : Nat) : Int) from congrArg (Value.int .i64) ((show ((b : Nat) : Int) - ((m : Nat) : Int) = ((b - m : Nat) : Int) by omega))) .nil)) (by kernel_rfl) (fun b5 => ?_)
  refine thn_n ?_
  refine WP.seq ?_
  refine WP.block ?_
  refine WP.loop (fun mz_ e6 w7 => ∃ (i : Nat) (j : Nat) (q : List Int), mz_ = i + j ∧ (0 < i ∧ 0 < j ∧ i ≤ m ∧ m + j ≤ sn ∧ q.Perm l ∧ ∀ x, rotF q (m - i) m (m + j) x = rotF l a m b x) ∧ List.map e6 [2, 4, 8, 9] = [.int .i64 ((m : Nat) : Int), .pointer (some ⟨g3, 0, none⟩), .int .i64 ((i : Nat) : Int), .int .i64 ((j : Nat) : Int)] ∧ Hp w0 Non (Res.own 3 1 (.slice sa sn sc) sn (List.flatMap (fun (y : Int) => [Go.Value.int .i64 y]) q) :: Res.row g3 [.func (.func g) #[] #[c1, c2], .func (.func sf) #[] #[s1, s2]] 164 :: L) w7) ((m - a) + (b - m)) ⟨m - a, b - m, l, rfl, ⟨by omega, by omega, by omega, by omega, List.Perm.refl _, fun x => by rw [show m - (m - a) = a from by omega, show m + (b - m) = b from by omega]⟩, by kernel_rfl, (((hp2.pull0).pull1).sub (.cons_cons _ (.cons_cons _ (.refl _))))⟩ ?_
  rintro _ e6 w7 ⟨i, j, q, rfl, hI9, hE10, hp8⟩
  obtain ⟨b11, rfl⟩ := toMk hE10
  clear hE10
  obtain ⟨pa, pb, pc, pd, pe, pf⟩ := hI9
  have hql := pe.trans hp
  refine WP.seq ?_
  refine WP.seq ?_
  refine WP.pure {} [] [2, 4, 8, 9, 18] [.int .i64 ((m : Nat) : Int), .pointer (some ⟨g3, 0, none⟩), .int .i64 ((i : Nat) : Int), .int .i64 ((j : Nat) : Int), .bool (decide (¬ (((i : Nat) : Int) = ((j : Nat) : Int))))] .nil (by kernel_rfl) (fun b12 => ?_)
  refine thn_n ?_
  refine WP.test (p := ¬ (((i : Nat) : Int) = ((j : Nat) : Int))) rfl Bp.dec (fun h13 => ?_) (fun h13 => ?_)
  · refine WP.skip ?_
    refine thn_n ?_
    refine WP.block ?_
    refine WP.seq ?_
    refine WP.pure {} [] [2, 4, 8, 9, 21] [.int .i64 ((m : Nat) : Int), .pointer (some ⟨g3, 0, none⟩), .int .i64 ((i : Nat) : Int), .int .i64 ((j : Nat) : Int), .bool (decide (((j : Nat) : Int) < ((i : Nat) : Int)))] .nil (by kernel_rfl) (fun b14 => ?_)
    refine thn_n ?_
    refine WP.test (p := ((j : Nat) : Int) < ((i : Nat) : Int)) rfl Bp.dec (fun h15 => ?_) (fun h15 => ?_)
    · refine WP.seq ?_
      refine WP.region _ rfl (by kernel_rfl) ?_
      refine OPS.batch 6 { subs := [25] } [.agg #[.func (.func g) #[] #[c1, c2], .func (.func sf) #[] #[s1, s2]], .int .i64 ((m - i : Nat) : Int)] [2, 4, 8, 9, 22, 25, 26, 27] [.int .i64 ((m : Nat) : Int), .pointer (some ⟨g3, 0, none⟩), .int .i64 ((i : Nat) : Int), .int .i64 ((j : Nat) : Int), .agg #[.func (.func g) #[] #[c1, c2], .func (.func sf) #[] #[s1, s2]], .int .i64 ((m - i : Nat) : Int), .int .i64 ((m : Nat) : Int), .int .i64 ((j : Nat) : Int)] (.cons (show Ld Try.prog w7 164 ⟨g3, 0, none⟩ (.agg #[.func (.func g) #[] #[c1, c2], .func (.func sf) #[] #[s1, s2]]) from Ld.rowN (cs := [.func (.func g) #[] #[c1, c2], .func (.func sf) #[] #[s1, s2]]) hp8.get1 (by kernel_rfl)) (.cons (show Rng .i64 (((m : Nat) : Int) - ((i : Nat) : Int)) from Rng.i64 (by omega)) (.cons (show (.int .i64 (((m : Nat) : Int) - ((i : Nat) : Int)) : Go.Value) = .int .i64 ((m - i : Nat) : Int) from congrArg (Value.int .i64) ((show ((m : Nat) : Int) - ((i : Nat) : Int) = ((m - i : Nat) : Int) by omega))) .nil))) (by kernel_rfl) (fun b16 => ?_)
      have hp19 := hp8.pull0
      refine OPS.cons (opStep.call (some 28) [.agg #[.func (.func g) #[] #[c1, c2], .func (.func sf) #[] #[s1, s2]], .int .i64 ((m - i : Nat) : Int), .int .i64 ((m : Nat) : Int), .int .i64 ((j : Nat) : Int)] (by kernel_rfl) (st_swapRange w0 g sf c1 c2 s1 s2 sa sn sc l0 lt R hcm hn0 hnb _ (hless.app _) (hswap.app _) (m - i) m j q (by omega) (by omega) (show List.Perm q l0 from by first | assumption | exact hql | exact (by assumption : List.Perm q l).trans hp) _ hp19) ?_)
      rintro _ w20 ⟨rfl, q22, hq23, hp21⟩
      refine ⟨_, rfl, ?_⟩
      refine OPS.nil ?_
      refine thn_n ?_
      refine WP.pure { subs := [31] } [.int .i64 ((i - j : Nat) : Int)] [2, 4, 8, 9] [.int .i64 ((m : Nat) : Int), .pointer (some ⟨g3, 0, none⟩), .int .i64 ((i - j : Nat) : Int), .int .i64 ((j : Nat) : Int)] (.cons (show Rng .i64 (((i : Nat) : Int) - ((j : Nat) : Int)) from Rng.i64 (by omega)) (.cons (show (.int .i64 (((i : Nat) : Int) - ((j : Nat) : Int)) : Go.Value) = .int .i64 ((i - j : Nat) : Int) from congrArg (Value.int .i64) ((show ((i : Nat) : Int) - ((j : Nat) : Int) = ((i - j : Nat) : Int) by omega))) .nil)) (by kernel_rfl) (fun b24 => ?_)
      refine blk_n ?_
      refine thn_n ?_
      exact ⟨(i - (j)) + (j), (by omega), i - j, j, q22, rfl, ⟨by omega, by omega, by omega, by omega, hq23.1.trans pe, fun x => (rot_gt hq23.2 (by omega) (by omega) (by omega) x).trans (pf x)⟩, by kernel_rfl, hp21⟩
    · refine WP.seq ?_
      refine WP.region _ rfl (by kernel_rfl) ?_
      refine OPS.batch 10 { subs := [35, 38, 40] } [.agg #[.func (.func g) #[] #[c1, c2], .func (.func sf) #[] #[s1, s2]], .int .i64 ((m - i : Nat) : Int), .int .i64 ((m + j : Nat) : Int), .int .i64 (((m + j) - i : Nat) : Int)] [2, 4, 8, 9, 32, 35, 40, 41] [.int .i64 ((m : Nat) : Int), .pointer (some ⟨g3, 0, none⟩), .int .i64 ((i : Nat) : Int), .int .i64 ((j : Nat) : Int), .agg #[.func (.func g) #[] #[c1, c2], .func (.func sf) #[] #[s1, s2]], .int .i64 ((m - i : Nat) : Int), .int .i64 (((m + j) - i : Nat) : Int), .int .i64 ((i : Nat) : Int)] (.cons (show Ld Try.prog w7 164 ⟨g3, 0, none⟩ (.agg #[.func (.func g) #[] #[c1, c2], .func (.func sf) #[] #[s1, s2]]) from Ld.rowN (cs := [.func (.func g) #[] #[c1, c2], .func (.func sf) #[] #[s1, s2]]) hp8.get1 (by kernel_rfl)) (.cons (show Rng .i64 (((m : Nat) : Int) - ((i : Nat) : Int)) from Rng.i64 (by omega)) (.cons (show (.int .i64 (((m : Nat) : Int) - ((i : Nat) : Int)) : Go.Value) = .int .i64 ((m - i : Nat) : Int) from congrArg (Value.int .i64) ((show ((m : Nat) : Int) - ((i : Nat) : Int) = ((m - i : Nat) : Int) by omega))) (.cons (show Rng .i64 (((m : Nat) : Int) + ((j : Nat) : Int)) from Rng.i64 (by omega)) (.cons (show (.int .i64 (((m : Nat) : Int) + ((j : Nat) : Int)) : Go.Value) = .int .i64 ((m + j : Nat) : Int) from congrArg (Value.int .i64) ((show ((m : Nat) : Int) + ((j : Nat) : Int) = ((m + j : Nat) : Int) by omega))) (.cons (show Rng .i64 (((m + j : Nat) : Int) - ((i : Nat) : Int)) from Rng.i64 (by omega)) (.cons (show (.int .i64 (((m + j : Nat) : Int) - ((i : Nat) : Int)) : Go.Value) = .int .i64 (((m + j) - i : Nat) : Int) from congrArg (Value.int .i64) ((show ((m + j : Nat) : Int) - ((i : Nat) : Int) = (((m + j) - i : Nat) : Int) by omega))) .nil))))))) (by kernel_rfl) (fun b25 => ?_)
      have hp28 := hp8.pull0
      refine OPS.cons (opStep.call (some 42) [.agg #[.func (.func g) #[] #[c1, c2], .func (.func sf) #[] #[s1, s2]], .int .i64 ((m - i : Nat) : Int), .int .i64 (((m + j) - i : Nat) : Int), .int .i64 ((i : Nat) : Int)] (by kernel_rfl) (st_swapRange w0 g sf c1 c2 s1 s2 sa sn sc l0 lt R hcm hn0 hnb _ (hless.app _) (hswap.app _) (m - i) ((m + j) - i) i q (by omega) (by omega) (show List.Perm q l0 from by first | assumption | exact hql | exact (by assumption : List.Perm q l).trans hp) _ hp28) ?_)
      rintro _ w29 ⟨rfl, q31, hq32, hp30⟩
      refine ⟨_, rfl, ?_⟩
      refine OPS.nil ?_
      refine thn_n ?_
      refine WP.pure { subs := [45] } [.int .i64 ((j - i : Nat) : Int)] [2, 4, 8, 9] [.int .i64 ((m : Nat) : Int), .pointer (some ⟨g3, 0, none⟩), .int .i64 ((i : Nat) : Int), .int .i64 ((j - i : Nat) : Int)] (.cons (show Rng .i64 (((j : Nat) : Int) - ((i : Nat) : Int)) from Rng.i64 (by omega)) (.cons (show (.int .i64 (((j : Nat) : Int) - ((i : Nat) : Int)) : Go.Value) = .int .i64 ((j - i : Nat) : Int) from congrArg (Value.int .i64) ((show ((j : Nat) : Int) - ((i : Nat) : Int) = ((j - i : Nat) : Int) by omega))) .nil)) (by kernel_rfl) (fun b33 => ?_)
      refine blk_n ?_
      refine thn_n ?_
      exact ⟨(i) + (j - i), (by omega), i, j - i, q31, rfl, ⟨by omega, by omega, by omega, by omega, hq32.1.trans pe, fun x => (rot_lt hq32.2 (by omega) (by omega) (by omega) x).trans (pf x)⟩, by kernel_rfl, hp30⟩
  · replace h13 := Classical.not_not.1 h13
    refine WP.exit ?_
    refine thn_x ?_
    refine thn_x ?_
    refine blk_hit ?_
    refine thn_n ?_
    refine WP.region _ rfl (by kernel_rfl) ?_
    refine OPS.batch 6 { subs := [49] } [.agg #[.func (.func g) #[] #[c1, c2], .func (.func sf) #[] #[s1, s2]], .int .i64 ((m - i : Nat) : Int)] [46, 49, 50, 51] [.agg #[.func (.func g) #[] #[c1, c2], .func (.func sf) #[] #[s1, s2]], .int .i64 ((m - i : Nat) : Int), .int .i64 ((m : Nat) : Int), .int .i64 ((i : Nat) : Int)] (.cons (show Ld Try.prog w7 164 ⟨g3, 0, none⟩ (.agg #[.func (.func g) #[] #[c1, c2], .func (.func sf) #[] #[s1, s2]]) from Ld.rowN (cs := [.func (.func g) #[] #[c1, c2], .func (.func sf) #[] #[s1, s2]]) hp8.get1 (by kernel_rfl)) (.cons (show Rng .i64 (((m : Nat) : Int) - ((i : Nat) : Int)) from Rng.i64 (by omega)) (.cons (show (.int .i64 (((m : Nat) : Int) - ((i : Nat) : Int)) : Go.Value) = .int .i64 ((m - i : Nat) : Int) from congrArg (Value.int .i64) ((show ((m : Nat) : Int) - ((i : Nat) : Int) = ((m - i : Nat) : Int) by omega))) .nil))) (by kernel_rfl) (fun b34 => ?_)
    have hp37 := hp8.pull0
    refine OPS.cons (opStep.call (some 52) [.agg #[.func (.func g) #[] #[c1, c2], .func (.func sf) #[] #[s1, s2]], .int .i64 ((m - i : Nat) : Int), .int .i64 ((m : Nat) : Int), .int .i64 ((i : Nat) : Int)] (by kernel_rfl) (st_swapRange w0 g sf c1 c2 s1 s2 sa sn sc l0 lt R hcm hn0 hnb _ (hless.app _) (hswap.app _) (m - i) m i q (by omega) (by omega) (show List.Perm q l0 from by first | assumption | exact hql | exact (by assumption : List.Perm q l).trans hp) _ hp37) ?_)
    rintro _ w38 ⟨rfl, q40, hq41, hp39⟩
    refine ⟨_, rfl, ?_⟩
    refine OPS.nil ?_
    refine bodyQ.ofN ?_
    refine bodyQ.of _ rfl [] trivial ?_
    have hij : i = j := by omega
    subst hij
    exact ⟨rfl, _, ⟨hq41.1.trans pe, fun x => (rot_eq hq41.2 (by omega) x).trans (pf x)⟩, (hp39.sub (.cons_cons _ (.cons _ (.refl _))))⟩

theorem st_insert (w0 : World) (g sf : FuncId) (c1 c2 s1 s2 : Go.Value) (sa : Option Addr) (sn sc : Nat) (l0 : List Int) (lt R : Int → Int → Prop) (hcm : Cm l0 lt R) (hn0 : l0.length = sn) (hnb : sn ≤ 8796093022207) (L : List Res) (hless : LessOk w0 L g c1 c2 sa sn sc l0 lt) (hswap : SwapOk w0 L sf s1 s2 sa sn sc l0) (a b : Nat) (l : List Int) (h1 : a ≤ b) (h3 : b ≤ sn) (hlow : ∀ i j, a ≤ i → i < j → j < b → l[i]! < l[j]!) (hp : l.Perm l0) (w : World) (hp0 : Hp w0 Non (Res.own 3 1 (.slice sa sn sc) sn (List.flatMap (fun (y : Int) => [Go.Value.int .i64 y]) l) :: L) w) :
    Calls Try.prog 138 #[.agg #[.func (.func g) #[] #[c1, c2], .func (.func sf) #[] #[s1, s2]], .int .i64 ((a : Nat) : Int), .int .i64 ((b : Nat) : Int)] w (fun r_ w' => r_ = .returned (.tuple #[]) ∧ ∃ q, (Mv l q a b ∧ Up R q a b) ∧ Hp w0 Non (Res.own 3 1 (.slice sa sn sc) sn (List.flatMap (fun (y : Int) => [Go.Value.int .i64 y]) q) :: L) w') := by
  have hll := hp.length_eq
  refine calls_of Try.func138 rfl 35 rfl (by simp) ?_
  have he0 : List.map (env0 [.agg #[.func (.func g) #[] #[c1, c2], .func (.func sf) #[] #[s1, s2]], .int .i64 ((a : Nat) : Int), .int .i64 ((b : Nat) : Int)]) [0, 1, 2] = [.agg #[.func (.func g) #[] #[c1, c2], .func (.func sf) #[] #[s1, s2]], .int .i64 ((a : Nat) : Int), .int .i64 ((b : Nat) : Int)] := by kernel_rfl
  obtain ⟨b0, he0⟩ := toMk he0
  rw [he0]
  clear he0
  refine WP.seq ?_
  refine WP.region _ rfl (by kernel_rfl) ?_
  refine OPS.cons (opStep.box hp0 [.func (.func g) #[] #[c1, c2], .func (.func sf) #[] #[s1, s2]] (by kernel_rfl) (fun g3 w1 hp2 => ?_))
  refine OPS.nil ?_
  refine thn_n ?_
  refine WP.seq ?_
  refine WP.pure { subs := [9] } [.int .i64 ((a + 1 : Nat) : Int)] [1, 2, 3, 6] [.int .i64 ((a : Nat) : Int), .int .i64 ((b : Nat) : Int), .pointer (some ⟨g3, 0, none⟩), .int .i64 ((a + 1 : Nat) : Int)] (.cons (show Rng .i64 (((a : Nat) : Int) + 1) from Rng.i64 (by omega)) (.cons (show (.int .i64 (((a : Nat) : Int) + 1) : Go.Value) = .int .i64 ((a + 1 : Nat) : Int) from congrArg (Value.int .i64) ((show ((a : Nat) : Int) + 1 = ((a + 1 : Nat) : Int) by omega))) .nil)) (by kernel_rfl) (fun b4 => ?_)
  refine thn_n ?_
  refine WP.block ?_
  refine WP.loop (fun mz_ e5 w6 => ∃ (i : Nat) (p : List Int), mz_ = b + 1 - i ∧ (a + 1 ≤ i ∧ (i ≤ b ∨ i = a + 1) ∧ Mv l p a (min i b) ∧ Up R p a i) ∧ List.map e5 [1, 2, 3, 6] = [.int .i64 ((a : Nat) : Int), .int .i64 ((b : Nat) : Int), .pointer (some ⟨g3, 0, none⟩), .int .i64 ((i : Nat) : Int)] ∧ Hp w0 Non (Res.own 3 1 (.slice sa sn sc) sn (List.flatMap (fun (y : Int) => [Go.Value.int .i64 y]) p) :: Res.row g3 [.func (.func g) #[] #[c1, c2], .func (.func sf) #[] #[s1, s2]] 164 :: L) w6) (b + 1 - (a + 1)) ⟨a + 1, l, rfl, ⟨by omega, by omega, Mv.refl _ _ _, fun i j h1 h2 h3 => by omega⟩, by kernel_rfl, (((hp2.pull0).pull1).sub (.cons_cons _ (.cons_cons _ (.refl _))))⟩ ?_
  rintro _ e5 w6 ⟨i, p, rfl, hI8, hE9, hp7⟩
  obtain ⟨b10, rfl⟩ := toMk hE9
  clear hE9
  obtain ⟨pa, pb, pc, pd⟩ := hI8
  have hpp := pc.perm.trans hp
  have hpl := pc.len
  refine WP.seq ?_
  refine WP.seq ?_
  refine WP.pure {} [] [1, 2, 3, 6, 12] [.int .i64 ((a : Nat) : Int), .int .i64 ((b : Nat) : Int), .pointer (some ⟨g3, 0, none⟩), .int .i64 ((i : Nat) : Int), .bool (decide (((i : Nat) : Int) < ((b : Nat) : Int)))] .nil (by kernel_rfl) (fun b11 => ?_)
  refine thn_n ?_
  refine WP.test (p := ((i : Nat) : Int) < ((b : Nat) : Int)) rfl Bp.dec (fun h12 => ?_) (fun h12 => ?_)
  · refine WP.skip ?_
    refine thn_n ?_
    refine WP.seq ?_
    refine WP.block ?_
    refine WP.seq ?_
    refine WP.pure {} [] [1, 2, 3, 6, 7] [.int .i64 ((a : Nat) : Int), .int .i64 ((b : Nat) : Int), .pointer (some ⟨g3, 0, none⟩), .int .i64 ((i : Nat) : Int), .int .i64 ((i : Nat) : Int)] .nil (by kernel_rfl) (fun b13 => ?_)
    refine thn_n ?_
    refine WP.block ?_
    have hlw : ∀ x, a ≤ x → x < i → p[x]! < p[i]! := fun x e1 e2 => by rw [pc.out i (by omega)]; obtain ⟨y, f1, f2, f3⟩ := pc.mem (by omega) e1 (show x < min i b by omega); rw [f3]; exact hlow y i f1 (by omega) (by omega)
    refine WP.loop (fun mz_ e14 w15 => ∃ (j : Nat) (q : List Int), mz_ = j + 1 ∧ (InsS R p q a i j ∧ True) ∧ List.map e14 [1, 2, 3, 6, 7] = [.int .i64 ((a : Nat) : Int), .int .i64 ((b : Nat) : Int), .pointer (some ⟨g3, 0, none⟩), .int .i64 ((i : Nat) : Int), .int .i64 ((j : Nat) : Int)] ∧ Hp w0 Non (Res.own 3 1 (.slice sa sn sc) sn (List.flatMap (fun (y : Int) => [Go.Value.int .i64 y]) q) :: Res.row g3 [.func (.func g) #[] #[c1, c2], .func (.func sf) #[] #[s1, s2]] 164 :: L) w15) ((i) + 1) ⟨i, p, rfl, ⟨ins_start (by omega), trivial⟩, by kernel_rfl, hp7⟩ ?_
    rintro _ e14 w15 ⟨j, q, rfl, hI17, hE18, hp16⟩
    obtain ⟨b19, rfl⟩ := toMk hE18
    clear hE18
    obtain ⟨qs, _⟩ := hI17
    have qle := qs.le
    have hql := qs.perm.trans hpp
    refine WP.seq ?_
    refine WP.cut (fun e38 w39 => ∃ (x36 : Bool), (True) ∧ Bp x36 ((((a : Nat) : Int) < ((j : Nat) : Int)) ∧ (lt q[j]! q[j - 1]!)) ∧ List.map e38 [1, 2, 3, 6, 7, 26] = [.int .i64 ((a : Nat) : Int), .int .i64 ((b : Nat) : Int), .pointer (some ⟨g3, 0, none⟩), .int .i64 ((i : Nat) : Int), .int .i64 ((j : Nat) : Int), .bool x36] ∧ Hp w0 Non (Res.own 3 1 (.slice sa sn sc) sn (List.flatMap (fun (y : Int) => [Go.Value.int .i64 y]) q) :: Res.row g3 [.func (.func g) #[] #[c1, c2], .func (.func sf) #[] #[s1, s2]] 164 :: L) w39) ?_ ?_
    · refine WP.region _ rfl (by kernel_rfl) ?_
      refine OPS.batch 4 {} [] [1, 2, 3, 6, 7, 19] [.int .i64 ((a : Nat) : Int), .int .i64 ((b : Nat) : Int), .pointer (some ⟨g3, 0, none⟩), .int .i64 ((i : Nat) : Int), .int .i64 ((j : Nat) : Int), .bool (decide (((a : Nat) : Int) < ((j : Nat) : Int)))] .nil (by kernel_rfl) (fun b21 => ?_)
      by_cases h22 : ((a : Nat) : Int) < ((j : Nat) : Int)
      · refine OPS.batch 0 {} [] [1, 2, 3, 6, 7, 19] [.int .i64 ((a : Nat) : Int), .int .i64 ((b : Nat) : Int), .pointer (some ⟨g3, 0, none⟩), .int .i64 ((i : Nat) : Int), .int .i64 ((j : Nat) : Int), .bool (decide (((a : Nat) : Int) < ((j : Nat) : Int)))] .nil (by kernel_rfl) (fun b23 => ?_)
        refine OPS.re [.int .i64 ((a : Nat) : Int), .int .i64 ((b : Nat) : Int), .pointer (some ⟨g3, 0, none⟩), .int .i64 ((i : Nat) : Int), .int .i64 ((j : Nat) : Int), .bool true] (by rw [show (decide (((a : Nat) : Int) < ((j : Nat) : Int))) = true from Bp.dec.tt h22]) ?_
        refine OPS.batch 5 { subs := [24] } [.func (.func g) #[] #[c1, c2], .int .i64 ((j - 1 : Nat) : Int)] [1, 2, 3, 6, 7, 19, 21, 22, 24] [.int .i64 ((a : Nat) : Int), .int .i64 ((b : Nat) : Int), .pointer (some ⟨g3, 0, none⟩), .int .i64 ((i : Nat) : Int), .int .i64 ((j : Nat) : Int), .bool true, .func (.func g) #[] #[c1, c2], .int .i64 ((j : Nat) : Int), .int .i64 ((j - 1 : Nat) : Int)] (.cons (Ld.row1 (P := Try.prog) (t := 140) (o := 0) (v := .func (.func g) #[] #[c1, c2]) hp16.get1 (by kernel_rfl)) (.cons (show Rng .i64 (((j : Nat) : Int) - 1) from Rng.i64 (by omega)) (.cons (show (.int .i64 (((j : Nat) : Int) - 1) : Go.Value) = .int .i64 ((j - 1 : Nat) : Int) from congrArg (Value.int .i64) ((show ((j : Nat) : Int) - 1 = ((j - 1 : Nat) : Int) by omega))) .nil))) (by kernel_rfl) (fun b24 => ?_)
        refine OPS.want (by kernel_rfl) ?_
        have hp27 := hp16.pull0
        refine OPS.cons (opStep.callE (some 25) [.int .i64 ((j : Nat) : Int), .int .i64 ((j - 1 : Nat) : Int), c1, c2] rfl hless.1 rfl (hless.2 q [Res.row g3 [.func (.func g) #[] #[c1, c2], .func (.func sf) #[] #[s1, s2]] 164] _ j (j - 1) (show List.Perm q l0 from by first | assumption | exact hql | exact (by assumption : List.Perm q l).trans hp) (by omega) (by omega) hp27) ?_)
        rintro _ w28 ⟨b31, rfl, hb32, hp29⟩
        refine ⟨_, rfl, ?_⟩
        have hp30 : Hp w0 Non (Res.own 3 1 (.slice sa sn sc) sn (List.flatMap (fun (y : Int) => [Go.Value.int .i64 y]) q) :: Res.row g3 [.func (.func g) #[] #[c1, c2], .func (.func sf) #[] #[s1, s2]] 164 :: L) w28 := hp29
        refine OPS.batch 1 { wraps := [26] } [] [1, 2, 3, 6, 7, 26] [.int .i64 ((a : Nat) : Int), .int .i64 ((b : Nat) : Int), .pointer (some ⟨g3, 0, none⟩), .int .i64 ((i : Nat) : Int), .int .i64 ((j : Nat) : Int), .bool b31] .nil (by kernel_rfl) (fun b33 => ?_)
        refine OPS.nil ?_
        refine thn_n ?_
        exact ⟨b31, trivial, Bp.of hb32 (by first | (simp only [h22, iff_false, false_iff, iff_true, true_iff, Classical.not_not, and_true, true_and, and_false, false_and, or_true, true_or, or_false, false_or, not_true_eq_false, not_false_eq_true, and_self, or_self, iff_self]; done) | (simp [h22]; done) | simp_all), by kernel_rfl, hp30⟩
      · refine OPS.batch 0 {} [] [1, 2, 3, 6, 7, 19] [.int .i64 ((a : Nat) : Int), .int .i64 ((b : Nat) : Int), .pointer (some ⟨g3, 0, none⟩), .int .i64 ((i : Nat) : Int), .int .i64 ((j : Nat) : Int), .bool (decide (((a : Nat) : Int) < ((j : Nat) : Int)))] .nil (by kernel_rfl) (fun b34 => ?_)
        refine OPS.re [.int .i64 ((a : Nat) : Int), .int .i64 ((b : Nat) : Int), .pointer (some ⟨g3, 0, none⟩), .int .i64 ((i : Nat) : Int), .int .i64 ((j : Nat) : Int), .bool false] (by rw [show (decide (((a : Nat) : Int) < ((j : Nat) : Int))) = false from Bp.dec.ff h22]) ?_
        refine OPS.batch 7 { wraps := [26] } [] [1, 2, 3, 6, 7, 26] [.int .i64 ((a : Nat) : Int), .int .i64 ((b : Nat) : Int), .pointer (some ⟨g3, 0, none⟩), .int .i64 ((i : Nat) : Int), .int .i64 ((j : Nat) : Int), .bool false] .nil (by kernel_rfl) (fun b35 => ?_)
        refine OPS.nil ?_
        refine thn_n ?_
        exact ⟨false, trivial, Bp.of Bp.f (by first | (simp only [h22, iff_false, false_iff, iff_true, true_iff, Classical.not_not, and_true, true_and, and_false, false_and, or_true, true_or, or_false, false_or, not_true_eq_false, not_false_eq_true, and_self, or_self, iff_self]; done) | (simp [h22]; done) | simp_all), by kernel_rfl, hp16⟩
    rintro e38 w39 ⟨x36, hd41, hb37, hE42, hp40⟩
    obtain ⟨b43, rfl⟩ := toMk hE42
    clear hE42
    clear hd41
    refine WP.test (p := (((a : Nat) : Int) < ((j : Nat) : Int)) ∧ (lt q[j]! q[j - 1]!)) rfl hb37 (fun h44 => ?_) (fun h44 => ?_)
    · refine WP.skip ?_
      refine thn_n ?_
      refine WP.seq ?_
      refine WP.block ?_
      refine WP.region _ rfl (by kernel_rfl) ?_
      refine OPS.batch 5 { subs := [33] } [.func (.func sf) #[] #[s1, s2], .int .i64 ((j - 1 : Nat) : Int)] [1, 2, 3, 6, 7, 30, 31, 33] [.int .i64 ((a : Nat) : Int), .int .i64 ((b : Nat) : Int), .pointer (some ⟨g3, 0, none⟩), .int .i64 ((i : Nat) : Int), .int .i64 ((j : Nat) : Int), .func (.func sf) #[] #[s1, s2], .int .i64 ((j : Nat) : Int), .int .i64 ((j - 1 : Nat) : Int)] (.cons (Ld.row1 (P := Try.prog) (t := 160) (o := 1) (v := .func (.func sf) #[] #[s1, s2]) hp40.get1 (by kernel_rfl)) (.cons (show Rng .i64 (((j : Nat) : Int) - 1) from Rng.i64 (by omega)) (.cons (show (.int .i64 (((j : Nat) : Int) - 1) : Go.Value) = .int .i64 ((j - 1 : Nat) : Int) from congrArg (Value.int .i64) ((show ((j : Nat) : Int) - 1 = ((j - 1 : Nat) : Int) by omega))) .nil))) (by kernel_rfl) (fun b45 => ?_)
      have hp48 := hp40.pull0
      obtain ⟨w49, hr52, hp50⟩ := hswap q [Res.row g3 [.func (.func g) #[] #[c1, c2], .func (.func sf) #[] #[s1, s2]] 164] _ j (j - 1) (show List.Perm q l0 from by first | assumption | exact hql | exact (by assumption : List.Perm q l).trans hp) (by omega) (by omega) hp48
      refine OPS.cons (opStep.callX (some 34) [.int .i64 ((j : Nat) : Int), .int .i64 ((j - 1 : Nat) : Int), s1, s2] rfl rfl hr52 ?_)
      have hp51 : Hp w0 Non (Res.own 3 1 (.slice sa sn sc) sn (List.flatMap (fun (y : Int) => [Go.Value.int .i64 y]) (swp q j (j - 1))) :: Res.row g3 [.func (.func g) #[] #[c1, c2], .func (.func sf) #[] #[s1, s2]] 164 :: L) w49 := hp50
      refine OPS.nil ?_
      refine blk_n ?_
      refine thn_n ?_
      refine WP.pure { subs := [28] } [.int .i64 ((j - 1 : Nat) : Int)] [1, 2, 3, 6, 7] [.int .i64 ((a : Nat) : Int), .int .i64 ((b : Nat) : Int), .pointer (some ⟨g3, 0, none⟩), .int .i64 ((i : Nat) : Int), .int .i64 ((j - 1 : Nat) : Int)] (.cons (show Rng .i64 (((j : Nat) : Int) - 1) from Rng.i64 (by omega)) (.cons (show (.int .i64 (((j : Nat) : Int) - 1) : Go.Value) = .int .i64 ((j - 1 : Nat) : Int) from congrArg (Value.int .i64) ((show ((j : Nat) : Int) - 1 = ((j - 1 : Nat) : Int) by omega))) .nil)) (by kernel_rfl) (fun b53 => ?_)
      refine thn_n ?_
      exact ⟨(j - 1) + 1, (by omega), j - 1, (swp q j (j - 1)), rfl, ⟨ins_step hcm qs hpp (by omega) hlw (by omega) h44.2, trivial⟩, by kernel_rfl, hp51⟩
    · refine WP.exit ?_
      refine thn_x ?_
      refine thn_x ?_
      refine blk_hit ?_
      refine blk_n ?_
      refine thn_n ?_
      refine WP.pure { subs := [14] } [.int .i64 ((i + 1 : Nat) : Int)] [1, 2, 3, 6] [.int .i64 ((a : Nat) : Int), .int .i64 ((b : Nat) : Int), .pointer (some ⟨g3, 0, none⟩), .int .i64 ((i + 1 : Nat) : Int)] (.cons (show Rng .i64 (((i : Nat) : Int) + 1) from Rng.i64 (by omega)) (.cons (show (.int .i64 (((i : Nat) : Int) + 1) : Go.Value) = .int .i64 ((i + 1 : Nat) : Int) from congrArg (Value.int .i64) ((show ((i : Nat) : Int) + 1 = ((i + 1 : Nat) : Int) by omega))) .nil)) (by kernel_rfl) (fun b54 => ?_)
      refine thn_n ?_
      exact ⟨b + 1 - (i + 1), (by omega), i + 1, q, rfl, ⟨by omega, by omega, by rw [show min (i + 1) b = i + 1 from by omega]; exact (pc.wide (Nat.le_refl _) (by omega)).trans qs.mv, ins_done hcm qs hpp (by omega) hlw pd (Classical.byContradiction fun hx => h44 ⟨by omega, Classical.byContradiction fun hy => hx (.inr hy)⟩)⟩, by kernel_rfl, hp40⟩
  · refine WP.exit ?_
    refine thn_x ?_
    refine thn_x ?_
    refine blk_hit ?_
    refine bodyQ.ofN ?_
    refine bodyQ.of _ rfl [] trivial ?_
    exact ⟨rfl, _, ⟨by rw [show min i b = b from by omega] at pc; exact pc, fun x y e1 e2 e3 => pd x y e1 e2 (by omega)⟩, (hp7.sub (.cons_cons _ (.cons _ (.refl _))))⟩

end Go.Proofs.Ytdahgdkadfdkeaa.K
