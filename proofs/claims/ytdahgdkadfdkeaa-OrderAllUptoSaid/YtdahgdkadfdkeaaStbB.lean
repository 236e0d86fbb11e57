/- The walks of StbB: what each function computes. -/
import Derived.Test.YtdahgdkadfdkeaaProg
import Derived.Test.YtdahgdkadfdkeaaCoreO
import Derived.Test.YtdahgdkadfdkeaaStbA
namespace Go.Proofs.Ytdahgdkadfdkeaa.K
open Go Go.Proofs Go.RowKit
set_option linter.unusedVariables false
set_option linter.unusedSimpArgs false
set_option maxRecDepth 20000
set_option maxHeartbeats 4000000

def SymOk (w0 : World) (g sf : FuncId) (c1 c2 s1 s2 : Go.Value) (sa : Option Addr) (sn sc : Nat) (l0 : List Int) (lt R : Int → Int → Prop) (hcm : Cm l0 lt R) (hn0 : l0.length = sn) (hnb : sn ≤ 8796093022207) (d : Nat) : Prop := ∀ (L : List Res) (_ : LessOk w0 L g c1 c2 sa sn sc l0 lt) (_ : SwapOk w0 L sf s1 s2 sa sn sc l0) (a m b : Nat) (l : List Int) (w : World), b - a = d → a < m → m < b → b ≤ sn → l.Perm l0 → Up R l a m → Up R l m b → Crs l a m b → Hp w0 Non (Res.own 3 1 (.slice sa sn sc) sn (List.flatMap (fun (y : Int) => [Go.Value.int .i64 y]) l) :: L) w → Calls Try.prog 139 #[.agg #[.func (.func g) #[] #[c1, c2], .func (.func sf) #[] #[s1, s2]], .int .i64 ((a : Nat) : Int), .int .i64 ((m : Nat) : Int), .int .i64 ((b : Nat) : Int)] w (fun r_ w' => r_ = .returned (.tuple #[]) ∧ ∃ q, (Mv l q a b ∧ Up R q a b) ∧ Hp w0 Non (Res.own 3 1 (.slice sa sn sc) sn (List.flatMap (fun (y : Int) => [Go.Value.int .i64 y]) q) :: L) w')
theorem sym_step (w0 : World) (g sf : FuncId) (c1 c2 s1 s2 : Go.Value) (sa : Option Addr) (sn sc : Nat) (l0 : List Int) (lt R : Int → Int → Prop) (hcm : Cm l0 lt R) (hn0 : l0.length = sn) (hnb : sn ≤ 8796093022207) (d : Nat) (ih : ∀ d', d' < d → SymOk w0 g sf c1 c2 s1 s2 sa sn sc l0 lt R hcm hn0 hnb d') (L : List Res) (hless : LessOk w0 L g c1 c2 sa sn sc l0 lt) (hswap : SwapOk w0 L sf s1 s2 sa sn sc l0) (a m b : Nat) (l : List Int) (w : World) (hd : b - a = d) (h1 : a < m) (h2 : m < b) (h3 : b ≤ sn) (hp : l.Perm l0) (hu1 : Up R l a m) (hu2 : Up R l m b) (hx : Crs l a m b) (hp0 : Hp w0 Non (Res.own 3 1 (.slice sa sn sc) sn (List.flatMap (fun (y : Int) => [Go.Value.int .i64 y]) l) :: L) w) :
    Calls Try.prog 139 #[.agg #[.func (.func g) #[] #[c1, c2], .func (.func sf) #[] #[s1, s2]], .int .i64 ((a : Nat) : Int), .int .i64 ((m : Nat) : Int), .int .i64 ((b : Nat) : Int)] w (fun r_ w' => r_ = .returned (.tuple #[]) ∧ ∃ q, (Mv l q a b ∧ Up R q a b) ∧ Hp w0 Non (Res.own 3 1 (.slice sa sn sc) sn (List.flatMap (fun (y : Int) => [Go.Value.int .i64 y]) q) :: L) w') := by
  have hll := hp.length_eq
  refine calls_of Try.func139 rfl 177 rfl (by simp) ?_
  have he0 : List.map (env0 [.agg #[.func (.func g) #[] #[c1, c2], .func (.func sf) #[] #[s1, s2]], .int .i64 ((a : Nat) : Int), .int .i64 ((m : Nat) : Int), .int .i64 ((b : Nat) : Int)]) [0, 1, 2, 3] = [.agg #[.func (.func g) #[] #[c1, c2], .func (.func sf) #[] #[s1, s2]], .int .i64 ((a : Nat) : Int), .int .i64 ((m : Nat) : Int), .int .i64 ((b : Nat) : Int)] := by kernel_rfl
  obtain ⟨b0, he0⟩ := toMk he0
  rw [he0]
  clear he0
  refine WP.seq ?_
  refine WP.region _ rfl (by kernel_rfl) ?_
  refine OPS.cons (opStep.box hp0 [.func (.func g) #[] #[c1, c2], .func (.func sf) #[] #[s1, s2]] (by kernel_rfl) (fun g3 w1 hp2 => ?_))
  refine OPS.nil ?_
  refine thn_n ?_
  refine WP.seq ?_
  refine WP.seq ?_
  refine WP.pure { subs := [25] } [.int .i64 ((m - a : Nat) : Int)] [1, 2, 3, 4, 26] [.int .i64 ((a : Nat) : Int), .int .i64 ((m : Nat) : Int), .int .i64 ((b : Nat) : Int), .pointer (some ⟨g3, 0, none⟩), .bool (decide (((m - a : Nat) : Int) = 1))] (.cons (show Rng .i64 (((m : Nat) : Int) - ((a : Nat) : Int)) from Rng.i64 (by omega)) (.cons (show (.int .i64 (((m : Nat) : Int) - ((a : Nat) : Int)) : Go.Value) = .int .i64 ((m - a : Nat) : Int) from congrArg (Value.int .i64) ((show ((m : Nat) : Int) - ((a : Nat) : Int) = ((m - a : Nat) : Int) by omega))) .nil)) (by kernel_rfl) (fun b4 => ?_)
  refine thn_n ?_
  refine WP.test (p := ((m - a : Nat) : Int) = 1) rfl Bp.dec (fun h5 => ?_) (fun h5 => ?_)
  · refine WP.seq ?_
    refine WP.pure {} [] [1, 3, 4, 8] [.int .i64 ((a : Nat) : Int), .int .i64 ((b : Nat) : Int), .pointer (some ⟨g3, 0, none⟩), .int .i64 ((m : Nat) : Int)] .nil (by kernel_rfl) (fun b6 => ?_)
    refine thn_n ?_
    refine WP.seq ?_
    refine WP.pure {} [] [1, 4, 8, 9] [.int .i64 ((a : Nat) : Int), .pointer (some ⟨g3, 0, none⟩), .int .i64 ((m : Nat) : Int), .int .i64 ((b : Nat) : Int)] .nil (by kernel_rfl) (fun b7 => ?_)
    refine thn_n ?_
    refine WP.seq ?_
    refine WP.block ?_
    have hma : m = a + 1 := by omega
    refine WP.loop (fun mz_ e8 w9 => ∃ (i : Nat) (j : Nat), mz_ = j - i ∧ ((m ≤ i ∧ i ≤ j ∧ j ≤ b) ∧ (∀ x, m ≤ x → x < i → R l[x]! l[a]!) ∧ ∀ x, j ≤ x → x < b → R l[a]! l[x]!) ∧ List.map e8 [1, 4, 8, 9] = [.int .i64 ((a : Nat) : Int), .pointer (some ⟨g3, 0, none⟩), .int .i64 ((i : Nat) : Int), .int .i64 ((j : Nat) : Int)] ∧ Hp w0 Non (Res.row g3 [.func (.func g) #[] #[c1, c2], .func (.func sf) #[] #[s1, s2]] 164 :: Res.own 3 1 (.slice sa sn sc) sn (List.flatMap (fun (y : Int) => [Go.Value.int .i64 y]) l) :: L) w9) ((b) - (m)) ⟨m, b, rfl, ⟨by omega, fun x e1 e2 => by omega, fun x e1 e2 => by omega⟩, by kernel_rfl, hp2⟩ ?_
    rintro _ e8 w9 ⟨i, j, rfl, hI11, hE12, hp10⟩
    obtain ⟨b13, rfl⟩ := toMk hE12
    clear hE12
    obtain ⟨pa, pb, pc⟩ := hI11
    refine WP.seq ?_
    refine WP.seq ?_
    refine WP.pure {} [] [1, 4, 8, 9, 31] [.int .i64 ((a : Nat) : Int), .pointer (some ⟨g3, 0, none⟩), .int .i64 ((i : Nat) : Int), .int .i64 ((j : Nat) : Int), .bool (decide (((i : Nat) : Int) < ((j : Nat) : Int)))] .nil (by kernel_rfl) (fun b14 => ?_)
    refine thn_n ?_
    refine WP.test (p := ((i : Nat) : Int) < ((j : Nat) : Int)) rfl Bp.dec (fun h15 => ?_) (fun h15 => ?_)
    · refine WP.skip ?_
      refine thn_n ?_
      refine WP.block ?_
      refine WP.seq ?_
      refine WP.pure { subs := [34, 36] } [.int .i64 ((i + j : Nat) : Int), .int .u64 (((i + j) / 2 : Nat) : Int)] [1, 4, 8, 9, 10] [.int .i64 ((a : Nat) : Int), .pointer (some ⟨g3, 0, none⟩), .int .i64 ((i : Nat) : Int), .int .i64 ((j : Nat) : Int), .int .i64 (((i + j) / 2 : Nat) : Int)] (.cons (show Rng .i64 (((i : Nat) : Int) + ((j : Nat) : Int)) from Rng.i64 (by omega)) (.cons (show (.int .i64 (((i : Nat) : Int) + ((j : Nat) : Int)) : Go.Value) = .int .i64 ((i + j : Nat) : Int) from congrArg (Value.int .i64) ((show ((i : Nat) : Int) + ((j : Nat) : Int) = ((i + j : Nat) : Int) by omega))) (.cons (show Rng .u64 (((i + j : Nat) : Int)) from Rng.u64 (by omega)) (.cons (show (0 : Int) ≤ 1 from by omega) (.cons (show (.int .u64 (((i + j : Nat) : Int).fdiv (2 ^ (min (1 : Int).toNat IntKind.u64.bits))) : Go.Value) = .int .u64 (((i + j) / 2 : Nat) : Int) from congrArg (Value.int .u64) (half_shr (a := i + j))) (.cons (show Rng .i64 ((((i + j) / 2 : Nat) : Int)) from Rng.i64 (by omega)) .nil)))))) (by kernel_rfl) (fun b16 => ?_)
      refine thn_n ?_
      refine WP.seq ?_
      refine WP.region _ rfl (by kernel_rfl) ?_
      refine OPS.batch 4 {} [.func (.func g) #[] #[c1, c2]] [1, 4, 8, 9, 10, 39, 40, 41] [.int .i64 ((a : Nat) : Int), .pointer (some ⟨g3, 0, none⟩), .int .i64 ((i : Nat) : Int), .int .i64 ((j : Nat) : Int), .int .i64 (((i + j) / 2 : Nat) : Int), .func (.func g) #[] #[c1, c2], .int .i64 (((i + j) / 2 : Nat) : Int), .int .i64 ((a : Nat) : Int)] (.cons (Ld.row1 (P := Try.prog) (t := 140) (o := 0) (v := .func (.func g) #[] #[c1, c2]) hp10.get0 (by kernel_rfl)) .nil) (by kernel_rfl) (fun b17 => ?_)
      have hp20 := hp10.pull1
      refine OPS.cons (opStep.callE (some 42) [.int .i64 (((i + j) / 2 : Nat) : Int), .int .i64 ((a : Nat) : Int), c1, c2] rfl hless.1 rfl (hless.2 l [Res.row g3 [.func (.func g) #[] #[c1, c2], .func (.func sf) #[] #[s1, s2]] 164] _ ((i + j) / 2) a (show List.Perm l l0 from by first | assumption | exact hql) (by omega) (by omega) hp20) ?_)
      rintro _ w21 ⟨b24, rfl, hb25, hp22⟩
      refine ⟨_, rfl, ?_⟩
      have hp23 : Hp w0 Non (Res.own 3 1 (.slice sa sn sc) sn (List.flatMap (fun (y : Int) => [Go.Value.int .i64 y]) l) :: Res.row g3 [.func (.func g) #[] #[c1, c2], .func (.func sf) #[] #[s1, s2]] 164 :: L) w21 := hp22
      refine OPS.nil ?_
      refine thn_n ?_
      refine WP.test (p := lt l[(i + j) / 2]! l[a]!) rfl hb25 (fun h26 => ?_) (fun h26 => ?_)
      · refine WP.pure { subs := [44] } [.int .i64 ((((i + j) / 2) + 1 : Nat) : Int)] [1, 4, 8, 9] [.int .i64 ((a : Nat) : Int), .pointer (some ⟨g3, 0, none⟩), .int .i64 ((((i + j) / 2) + 1 : Nat) : Int), .int .i64 ((j : Nat) : Int)] (.cons (show Rng .i64 ((((i + j) / 2 : Nat) : Int) + 1) from Rng.i64 (by omega)) (.cons (show (.int .i64 ((((i + j) / 2 : Nat) : Int) + 1) : Go.Value) = .int .i64 ((((i + j) / 2) + 1 : Nat) : Int) from congrArg (Value.int .i64) ((show (((i + j) / 2 : Nat) : Int) + 1 = ((((i + j) / 2) + 1 : Nat) : Int) by omega))) .nil)) (by kernel_rfl) (fun b27 => ?_)
        refine blk_n ?_
        refine thn_n ?_
        exact ⟨(j) - (((i + (j)) / 2) + 1), (by omega), ((i + j) / 2) + 1, j, rfl, ⟨by omega, bs1_yes hma hcm hp (by omega) hu2 hx (by omega) (by omega) h26, pc⟩, by kernel_rfl, (((hp23.pull0).pull1).sub (.cons_cons _ (.cons_cons _ (.refl _))))⟩
      · refine WP.pure {} [] [1, 4, 8, 9] [.int .i64 ((a : Nat) : Int), .pointer (some ⟨g3, 0, none⟩), .int .i64 ((i : Nat) : Int), .int .i64 (((i + j) / 2 : Nat) : Int)] .nil (by kernel_rfl) (fun b28 => ?_)
        refine blk_n ?_
        refine thn_n ?_
        exact ⟨((i + j) / 2) - (i), (by omega), i, (i + j) / 2, rfl, ⟨by omega, pb, bs1_no hma hcm hp (by omega) hu2 hx (by omega) (by omega) h26⟩, by kernel_rfl, (((hp23.pull0).pull1).sub (.cons_cons _ (.cons_cons _ (.refl _))))⟩
    · refine WP.exit ?_
      refine thn_x ?_
      refine thn_x ?_
      refine blk_hit ?_
      refine thn_n ?_
      refine WP.seq ?_
      refine WP.seq ?_
      refine WP.pure {} [] [4, 8, 11] [.pointer (some ⟨g3, 0, none⟩), .int .i64 ((i : Nat) : Int), .int .i64 ((a : Nat) : Int)] .nil (by kernel_rfl) (fun b29 => ?_)
      refine thn_n ?_
      refine WP.block ?_
      obtain rfl : i = j := by omega
      refine WP.loop (fun mz_ e30 w31 => ∃ (k : Nat) (q : List Int), mz_ = i - 1 - k ∧ ((a ≤ k ∧ k ≤ i - 1) ∧ q.Perm l ∧ ∀ x, q[x]! = shiF l a k x) ∧ List.map e30 [4, 8, 11] = [.pointer (some ⟨g3, 0, none⟩), .int .i64 ((i : Nat) : Int), .int .i64 ((k : Nat) : Int)] ∧ Hp w0 Non (Res.own 3 1 (.slice sa sn sc) sn (List.flatMap (fun (y : Int) => [Go.Value.int .i64 y]) q) :: Res.row g3 [.func (.func g) #[] #[c1, c2], .func (.func sf) #[] #[s1, s2]] 164 :: L) w31) (i - 1 - (a)) ⟨a, l, rfl, ⟨by omega, List.Perm.refl _, fun x => shi0 l a x⟩, by kernel_rfl, (((hp10.pull0).pull1).sub (.cons_cons _ (.cons_cons _ (.refl _))))⟩ ?_
      rintro _ e30 w31 ⟨k, q, rfl, hI33, hE34, hp32⟩
      obtain ⟨b35, rfl⟩ := toMk hE34
      clear hE34
      obtain ⟨ka, kb, kc⟩ := hI33
      have hql := kb.trans hp
      refine WP.seq ?_
      refine WP.seq ?_
      refine WP.pure { subs := [49] } [.int .i64 ((i - 1 : Nat) : Int)] [4, 8, 11, 50] [.pointer (some ⟨g3, 0, none⟩), .int .i64 ((i : Nat) : Int), .int .i64 ((k : Nat) : Int), .bool (decide (((k : Nat) : Int) < ((i - 1 : Nat) : Int)))] (.cons (show Rng .i64 (((i : Nat) : Int) - 1) from Rng.i64 (by omega)) (.cons (show (.int .i64 (((i : Nat) : Int) - 1) : Go.Value) = .int .i64 ((i - 1 : Nat) : Int) from congrArg (Value.int .i64) ((show ((i : Nat) : Int) - 1 = ((i - 1 : Nat) : Int) by omega))) .nil)) (by kernel_rfl) (fun b36 => ?_)
      refine thn_n ?_
      refine WP.test (p := ((k : Nat) : Int) < ((i - 1 : Nat) : Int)) rfl Bp.dec (fun h37 => ?_) (fun h37 => ?_)
      · refine WP.skip ?_
        refine thn_n ?_
        refine WP.seq ?_
        refine WP.block ?_
        refine WP.region _ rfl (by kernel_rfl) ?_
        refine OPS.batch 5 { subs := [57] } [.func (.func sf) #[] #[s1, s2], .int .i64 ((k + 1 : Nat) : Int)] [4, 8, 11, 54, 55, 57] [.pointer (some ⟨g3, 0, none⟩), .int .i64 ((i : Nat) : Int), .int .i64 ((k : Nat) : Int), .func (.func sf) #[] #[s1, s2], .int .i64 ((k : Nat) : Int), .int .i64 ((k + 1 : Nat) : Int)] (.cons (Ld.row1 (P := Try.prog) (t := 160) (o := 1) (v := .func (.func sf) #[] #[s1, s2]) hp32.get1 (by kernel_rfl)) (.cons (show Rng .i64 (((k : Nat) : Int) + 1) from Rng.i64 (by omega)) (.cons (show (.int .i64 (((k : Nat) : Int) + 1) : Go.Value) = .int .i64 ((k + 1 : Nat) : Int) from congrArg (Value.int .i64) ((show ((k : Nat) : Int) + 1 = ((k + 1 : Nat) : Int) by omega))) .nil))) (by kernel_rfl) (fun b38 => ?_)
        have hp41 := hp32.pull0
        obtain ⟨w42, hr45, hp43⟩ := hswap q [Res.row g3 [.func (.func g) #[] #[c1, c2], .func (.func sf) #[] #[s1, s2]] 164] _ k (k + 1) (show List.Perm q l0 from by first | assumption | exact hql) (by omega) (by omega) hp41
        refine OPS.cons (opStep.callX (some 58) [.int .i64 ((k : Nat) : Int), .int .i64 ((k + 1 : Nat) : Int), s1, s2] rfl rfl hr45 ?_)
        have hp44 : Hp w0 Non (Res.own 3 1 (.slice sa sn sc) sn (List.flatMap (fun (y : Int) => [Go.Value.int .i64 y]) (swp q k (k + 1))) :: Res.row g3 [.func (.func g) #[] #[c1, c2], .func (.func sf) #[] #[s1, s2]] 164 :: L) w42 := hp43
        refine OPS.nil ?_
        refine blk_n ?_
        refine thn_n ?_
        refine WP.pure { subs := [52] } [.int .i64 ((k + 1 : Nat) : Int)] [4, 8, 11] [.pointer (some ⟨g3, 0, none⟩), .int .i64 ((i : Nat) : Int), .int .i64 ((k + 1 : Nat) : Int)] (.cons (show Rng .i64 (((k : Nat) : Int) + 1) from Rng.i64 (by omega)) (.cons (show (.int .i64 (((k : Nat) : Int) + 1) : Go.Value) = .int .i64 ((k + 1 : Nat) : Int) from congrArg (Value.int .i64) ((show ((k : Nat) : Int) + 1 = ((k + 1 : Nat) : Int) by omega))) .nil)) (by kernel_rfl) (fun b46 => ?_)
        refine thn_n ?_
        exact ⟨i - 1 - (k + 1), (by omega), k + 1, (swp q k (k + 1)), rfl, ⟨by omega, shi_step kb kc (by omega) (by omega)⟩, by kernel_rfl, hp44⟩
      · refine WP.exit ?_
        refine thn_x ?_
        refine thn_x ?_
        refine blk_hit ?_
        refine thn_n ?_
        refine WP.ret ?_
        refine thn_r ?_
        refine bodyQ.of _ rfl [] trivial ?_
        have hk : k = i - 1 := by omega
        subst hk
        exact ⟨rfl, _, ⟨shi_mv kb kc (by omega), shi_up hma kc (by omega) hu2 pb pc⟩, (hp32.sub (.cons_cons _ (.cons _ (.refl _))))⟩
  · refine WP.skip ?_
    refine thn_n ?_
    refine WP.seq ?_
    refine WP.seq ?_
    refine WP.pure { subs := [61] } [.int .i64 ((b - m : Nat) : Int)] [1, 2, 3, 4, 62] [.int .i64 ((a : Nat) : Int), .int .i64 ((m : Nat) : Int), .int .i64 ((b : Nat) : Int), .pointer (some ⟨g3, 0, none⟩), .bool (decide (((b - m : Nat) : Int) = 1))] (.cons (show Rng .i64 (((b : Nat) : Int) - ((m : Nat) : Int)) from Rng.i64 (by omega)) (.cons (show (.int .i64 (((b : Nat) : Int) - ((m : Nat) : Int)) : Go.Value) = .int .i64 ((b - m : Nat) : Int) from congrArg (Value.int .i64) ((show ((b : Nat) : Int) - ((m : Nat) : Int) = ((b - m : Nat) : Int) by omega))) .nil)) (by kernel_rfl) (fun b47 => ?_)
    refine thn_n ?_
    refine WP.test (p := ((b - m : Nat) : Int) = 1) rfl Bp.dec (fun h48 => ?_) (fun h48 => ?_)
    · refine WP.seq ?_
      refine WP.pure {} [] [2, 4, 12] [.int .i64 ((m : Nat) : Int), .pointer (some ⟨g3, 0, none⟩), .int .i64 ((a : Nat) : Int)] .nil (by kernel_rfl) (fun b49 => ?_)
      refine thn_n ?_
      refine WP.seq ?_
      refine WP.pure {} [] [2, 4, 12, 13] [.int .i64 ((m : Nat) : Int), .pointer (some ⟨g3, 0, none⟩), .int .i64 ((a : Nat) : Int), .int .i64 ((m : Nat) : Int)] .nil (by kernel_rfl) (fun b50 => ?_)
      refine thn_n ?_
      refine WP.seq ?_
      refine WP.block ?_
      have hma : b = m + 1 := by omega
      refine WP.loop (fun mz_ e51 w52 => ∃ (i : Nat) (j : Nat), mz_ = j - i ∧ ((a ≤ i ∧ i ≤ j ∧ j ≤ m) ∧ (∀ x, a ≤ x → x < i → R l[x]! l[m]!) ∧ ∀ x, j ≤ x → x < m → R l[m]! l[x]!) ∧ List.map e51 [2, 4, 12, 13] = [.int .i64 ((m : Nat) : Int), .pointer (some ⟨g3, 0, none⟩), .int .i64 ((i : Nat) : Int), .int .i64 ((j : Nat) : Int)] ∧ Hp w0 Non (Res.row g3 [.func (.func g) #[] #[c1, c2], .func (.func sf) #[] #[s1, s2]] 164 :: Res.own 3 1 (.slice sa sn sc) sn (List.flatMap (fun (y : Int) => [Go.Value.int .i64 y]) l) :: L) w52) ((m) - (a)) ⟨a, m, rfl, ⟨by omega, fun x e1 e2 => by omega, fun x e1 e2 => by omega⟩, by kernel_rfl, hp2⟩ ?_
      rintro _ e51 w52 ⟨i, j, rfl, hI54, hE55, hp53⟩
      obtain ⟨b56, rfl⟩ := toMk hE55
      clear hE55
      obtain ⟨pa, pb, pc⟩ := hI54
      refine WP.seq ?_
      refine WP.seq ?_
      refine WP.pure {} [] [2, 4, 12, 13, 67] [.int .i64 ((m : Nat) : Int), .pointer (some ⟨g3, 0, none⟩), .int .i64 ((i : Nat) : Int), .int .i64 ((j : Nat) : Int), .bool (decide (((i : Nat) : Int) < ((j : Nat) : Int)))] .nil (by kernel_rfl) (fun b57 => ?_)
      refine thn_n ?_
      refine WP.test (p := ((i : Nat) : Int) < ((j : Nat) : Int)) rfl Bp.dec (fun h58 => ?_) (fun h58 => ?_)
      · refine WP.skip ?_
        refine thn_n ?_
        refine WP.block ?_
        refine WP.seq ?_
        refine WP.pure { subs := [70, 72] } [.int .i64 ((i + j : Nat) : Int), .int .u64 (((i + j) / 2 : Nat) : Int)] [2, 4, 12, 13, 14] [.int .i64 ((m : Nat) : Int), .pointer (some ⟨g3, 0, none⟩), .int .i64 ((i : Nat) : Int), .int .i64 ((j : Nat) : Int), .int .i64 (((i + j) / 2 : Nat) : Int)] (.cons (show Rng .i64 (((i : Nat) : Int) + ((j : Nat) : Int)) from Rng.i64 (by omega)) (.cons (show (.int .i64 (((i : Nat) : Int) + ((j : Nat) : Int)) : Go.Value) = .int .i64 ((i + j : Nat) : Int) from congrArg (Value.int .i64) ((show ((i : Nat) : Int) + ((j : Nat) : Int) = ((i + j : Nat) : Int) by omega))) (.cons (show Rng .u64 (((i + j : Nat) : Int)) from Rng.u64 (by omega)) (.cons (show (0 : Int) ≤ 1 from by omega) (.cons (show (.int .u64 (((i + j : Nat) : Int).fdiv (2 ^ (min (1 : Int).toNat IntKind.u64.bits))) : Go.Value) = .int .u64 (((i + j) / 2 : Nat) : Int) from congrArg (Value.int .u64) (half_shr (a := i + j))) (.cons (show Rng .i64 ((((i + j) / 2 : Nat) : Int)) from Rng.i64 (by omega)) .nil)))))) (by kernel_rfl) (fun b59 => ?_)
        refine thn_n ?_
        refine WP.seq ?_
        refine WP.region _ rfl (by kernel_rfl) ?_
        refine OPS.batch 4 {} [.func (.func g) #[] #[c1, c2]] [2, 4, 12, 13, 14, 75, 76, 77] [.int .i64 ((m : Nat) : Int), .pointer (some ⟨g3, 0, none⟩), .int .i64 ((i : Nat) : Int), .int .i64 ((j : Nat) : Int), .int .i64 (((i + j) / 2 : Nat) : Int), .func (.func g) #[] #[c1, c2], .int .i64 ((m : Nat) : Int), .int .i64 (((i + j) / 2 : Nat) : Int)] (.cons (Ld.row1 (P := Try.prog) (t := 140) (o := 0) (v := .func (.func g) #[] #[c1, c2]) hp53.get0 (by kernel_rfl)) .nil) (by kernel_rfl) (fun b60 => ?_)
        have hp63 := hp53.pull1
        refine OPS.cons (opStep.callE (some 78) [.int .i64 ((m : Nat) : Int), .int .i64 (((i + j) / 2 : Nat) : Int), c1, c2] rfl hless.1 rfl (hless.2 l [Res.row g3 [.func (.func g) #[] #[c1, c2], .func (.func sf) #[] #[s1, s2]] 164] _ m ((i + j) / 2) (show List.Perm l l0 from by first | assumption | exact hql) (by omega) (by omega) hp63) ?_)
        rintro _ w64 ⟨b67, rfl, hb68, hp65⟩
        refine ⟨_, rfl, ?_⟩
        have hp66 : Hp w0 Non (Res.own 3 1 (.slice sa sn sc) sn (List.flatMap (fun (y : Int) => [Go.Value.int .i64 y]) l) :: Res.row g3 [.func (.func g) #[] #[c1, c2], .func (.func sf) #[] #[s1, s2]] 164 :: L) w64 := hp65
        refine OPS.batch 1 {} [] [2, 4, 12, 13, 14, 79] [.int .i64 ((m : Nat) : Int), .pointer (some ⟨g3, 0, none⟩), .int .i64 ((i : Nat) : Int), .int .i64 ((j : Nat) : Int), .int .i64 (((i + j) / 2 : Nat) : Int), .bool (!b67)] .nil (by kernel_rfl) (fun b69 => ?_)
        refine OPS.nil ?_
        refine thn_n ?_
        refine WP.test (p := ¬ (lt l[m]! l[(i + j) / 2]!)) rfl (Bp.not hb68) (fun h70 => ?_) (fun h70 => ?_)
        · refine WP.pure { subs := [81] } [.int .i64 ((((i + j) / 2) + 1 : Nat) : Int)] [2, 4, 12, 13] [.int .i64 ((m : Nat) : Int), .pointer (some ⟨g3, 0, none⟩), .int .i64 ((((i + j) / 2) + 1 : Nat) : Int), .int .i64 ((j : Nat) : Int)] (.cons (show Rng .i64 ((((i + j) / 2 : Nat) : Int) + 1) from Rng.i64 (by omega)) (.cons (show (.int .i64 ((((i + j) / 2 : Nat) : Int) + 1) : Go.Value) = .int .i64 ((((i + j) / 2) + 1 : Nat) : Int) from congrArg (Value.int .i64) ((show (((i + j) / 2 : Nat) : Int) + 1 = ((((i + j) / 2) + 1 : Nat) : Int) by omega))) .nil)) (by kernel_rfl) (fun b71 => ?_)
          refine blk_n ?_
          refine thn_n ?_
          exact ⟨(j) - (((i + (j)) / 2) + 1), (by omega), ((i + j) / 2) + 1, j, rfl, ⟨by omega, bs2_no hma hcm hp (by omega) hu1 hx (by omega) (by omega) h70, pc⟩, by kernel_rfl, (((hp66.pull0).pull1).sub (.cons_cons _ (.cons_cons _ (.refl _))))⟩
        · replace h70 := Classical.not_not.1 h70
          refine WP.pure {} [] [2, 4, 12, 13] [.int .i64 ((m : Nat) : Int), .pointer (some ⟨g3, 0, none⟩), .int .i64 ((i : Nat) : Int), .int .i64 (((i + j) / 2 : Nat) : Int)] .nil (by kernel_rfl) (fun b72 => ?_)
          refine blk_n ?_
          refine thn_n ?_
          exact ⟨((i + j) / 2) - (i), (by omega), i, (i + j) / 2, rfl, ⟨by omega, pb, bs2_yes hma hcm hp (by omega) hu1 hx (by omega) (by omega) (by simpa using h70)⟩, by kernel_rfl, (((hp66.pull0).pull1).sub (.cons_cons _ (.cons_cons _ (.refl _))))⟩
      · refine WP.exit ?_
        refine thn_x ?_
        refine thn_x ?_
        refine blk_hit ?_
        refine thn_n ?_
        refine WP.seq ?_
        refine WP.seq ?_
        refine WP.pure {} [] [4, 12, 15] [.pointer (some ⟨g3, 0, none⟩), .int .i64 ((i : Nat) : Int), .int .i64 ((m : Nat) : Int)] .nil (by kernel_rfl) (fun b73 => ?_)
        refine thn_n ?_
        refine WP.block ?_
        obtain rfl : i = j := by omega
        refine WP.loop (fun mz_ e74 w75 => ∃ (k : Nat) (q : List Int), mz_ = k + 1 ∧ ((i ≤ k ∧ k ≤ m) ∧ q.Perm l ∧ ∀ x, q[x]! = shdF l m k x) ∧ List.map e74 [4, 12, 15] = [.pointer (some ⟨g3, 0, none⟩), .int .i64 ((i : Nat) : Int), .int .i64 ((k : Nat) : Int)] ∧ Hp w0 Non (Res.own 3 1 (.slice sa sn sc) sn (List.flatMap (fun (y : Int) => [Go.Value.int .i64 y]) q) :: Res.row g3 [.func (.func g) #[] #[c1, c2], .func (.func sf) #[] #[s1, s2]] 164 :: L) w75) ((m) + 1) ⟨m, l, rfl, ⟨by omega, List.Perm.refl _, fun x => shd0 l m x⟩, by kernel_rfl, (((hp53.pull0).pull1).sub (.cons_cons _ (.cons_cons _ (.refl _))))⟩ ?_
        rintro _ e74 w75 ⟨k, q, rfl, hI77, hE78, hp76⟩
        obtain ⟨b79, rfl⟩ := toMk hE78
        clear hE78
        obtain ⟨ka, kb, kc⟩ := hI77
        have hql := kb.trans hp
        refine WP.seq ?_
        refine WP.seq ?_
        refine WP.pure {} [] [4, 12, 15, 86] [.pointer (some ⟨g3, 0, none⟩), .int .i64 ((i : Nat) : Int), .int .i64 ((k : Nat) : Int), .bool (decide (((i : Nat) : Int) < ((k : Nat) : Int)))] .nil (by kernel_rfl) (fun b80 => ?_)
        refine thn_n ?_
        refine WP.test (p := ((i : Nat) : Int) < ((k : Nat) : Int)) rfl Bp.dec (fun h81 => ?_) (fun h81 => ?_)
        · refine WP.skip ?_
          refine thn_n ?_
          refine WP.seq ?_
          refine WP.block ?_
          refine WP.region _ rfl (by kernel_rfl) ?_
          refine OPS.batch 5 { subs := [93] } [.func (.func sf) #[] #[s1, s2], .int .i64 ((k - 1 : Nat) : Int)] [4, 12, 15, 90, 91, 93] [.pointer (some ⟨g3, 0, none⟩), .int .i64 ((i : Nat) : Int), .int .i64 ((k : Nat) : Int), .func (.func sf) #[] #[s1, s2], .int .i64 ((k : Nat) : Int), .int .i64 ((k - 1 : Nat) : Int)] (.cons (Ld.row1 (P := Try.prog) (t := 160) (o := 1) (v := .func (.func sf) #[] #[s1, s2]) hp76.get1 (by kernel_rfl)) (.cons (show Rng .i64 (((k : Nat) : Int) - 1) from Rng.i64 (by omega)) (.cons (show (.int .i64 (((k : Nat) : Int) - 1) : Go.Value) = .int .i64 ((k - 1 : Nat) : Int) from congrArg (Value.int .i64) ((show ((k : Nat) : Int) - 1 = ((k - 1 : Nat) : Int) by omega))) .nil))) (by kernel_rfl) (fun b82 => ?_)
          have hp85 := hp76.pull0
          obtain ⟨w86, hr89, hp87⟩ := hswap q [Res.row g3 [.func (.func g) #[] #[c1, c2], .func (.func sf) #[] #[s1, s2]] 164] _ k (k - 1) (show List.Perm q l0 from by first | assumption | exact hql) (by omega) (by omega) hp85
          refine OPS.cons (opStep.callX (some 94) [.int .i64 ((k : Nat) : Int), .int .i64 ((k - 1 : Nat) : Int), s1, s2] rfl rfl hr89 ?_)
          have hp88 : Hp w0 Non (Res.own 3 1 (.slice sa sn sc) sn (List.flatMap (fun (y : Int) => [Go.Value.int .i64 y]) (swp q k (k - 1))) :: Res.row g3 [.func (.func g) #[] #[c1, c2], .func (.func sf) #[] #[s1, s2]] 164 :: L) w86 := hp87
          refine OPS.nil ?_
          refine blk_n ?_
          refine thn_n ?_
          refine WP.pure { subs := [88] } [.int .i64 ((k - 1 : Nat) : Int)] [4, 12, 15] [.pointer (some ⟨g3, 0, none⟩), .int .i64 ((i : Nat) : Int), .int .i64 ((k - 1 : Nat) : Int)] (.cons (show Rng .i64 (((k : Nat) : Int) - 1) from Rng.i64 (by omega)) (.cons (show (.int .i64 (((k : Nat) : Int) - 1) : Go.Value) = .int .i64 ((k - 1 : Nat) : Int) from congrArg (Value.int .i64) ((show ((k : Nat) : Int) - 1 = ((k - 1 : Nat) : Int) by omega))) .nil)) (by kernel_rfl) (fun b90 => ?_)
          refine thn_n ?_
          exact ⟨(k - 1) + 1, (by omega), k - 1, (swp q k (k - 1)), rfl, ⟨by omega, shd_step kb kc (by omega) (by omega) (by omega)⟩, by kernel_rfl, hp88⟩
        · refine WP.exit ?_
          refine thn_x ?_
          refine thn_x ?_
          refine blk_hit ?_
          refine thn_n ?_
          refine WP.ret ?_
          refine thn_r ?_
          refine bodyQ.of _ rfl [] trivial ?_
          have hk : k = i := by omega
          subst hk
          exact ⟨rfl, _, ⟨shd_mv hma kb kc (by omega), shd_up hma kc (by omega) hu1 pb pc⟩, (hp76.sub (.cons_cons _ (.cons _ (.refl _))))⟩
    · refine WP.skip ?_
      refine thn_n ?_
      refine WP.seq ?_
      refine WP.pure { subs := [97, 99] } [.int .i64 ((a + b : Nat) : Int), .int .u64 (((a + b) / 2 : Nat) : Int)] [1, 2, 3, 4, 16] [.int .i64 ((a : Nat) : Int), .int .i64 ((m : Nat) : Int), .int .i64 ((b : Nat) : Int), .pointer (some ⟨g3, 0, none⟩), .int .i64 (((a + b) / 2 : Nat) : Int)] (.cons (show Rng .i64 (((a : Nat) : Int) + ((b : Nat) : Int)) from Rng.i64 (by omega)) (.cons (show (.int .i64 (((a : Nat) : Int) + ((b : Nat) : Int)) : Go.Value) = .int .i64 ((a + b : Nat) : Int) from congrArg (Value.int .i64) ((show ((a : Nat) : Int) + ((b : Nat) : Int) = ((a + b : Nat) : Int) by omega))) (.cons (show Rng .u64 (((a + b : Nat) : Int)) from Rng.u64 (by omega)) (.cons (show (0 : Int) ≤ 1 from by omega) (.cons (show (.int .u64 (((a + b : Nat) : Int).fdiv (2 ^ (min (1 : Int).toNat IntKind.u64.bits))) : Go.Value) = .int .u64 (((a + b) / 2 : Nat) : Int) from congrArg (Value.int .u64) (half_shr (a := a + b))) (.cons (show Rng .i64 ((((a + b) / 2 : Nat) : Int)) from Rng.i64 (by omega)) .nil)))))) (by kernel_rfl) (fun b91 => ?_)
      refine thn_n ?_
      refine WP.seq ?_
      refine WP.pure { subs := [103] } [.int .i64 ((((a + b) / 2) + m : Nat) : Int)] [1, 2, 3, 4, 16, 17] [.int .i64 ((a : Nat) : Int), .int .i64 ((m : Nat) : Int), .int .i64 ((b : Nat) : Int), .pointer (some ⟨g3, 0, none⟩), .int .i64 (((a + b) / 2 : Nat) : Int), .int .i64 ((((a + b) / 2) + m : Nat) : Int)] (.cons (show Rng .i64 ((((a + b) / 2 : Nat) : Int) + ((m : Nat) : Int)) from Rng.i64 (by omega)) (.cons (show (.int .i64 ((((a + b) / 2 : Nat) : Int) + ((m : Nat) : Int)) : Go.Value) = .int .i64 ((((a + b) / 2) + m : Nat) : Int) from congrArg (Value.int .i64) ((show (((a + b) / 2 : Nat) : Int) + ((m : Nat) : Int) = ((((a + b) / 2) + m : Nat) : Int) by omega))) .nil)) (by kernel_rfl) (fun b92 => ?_)
      refine thn_n ?_
      refine WP.seq ?_
      refine WP.pure {} [] [1, 2, 3, 4, 16, 17] [.int .i64 ((a : Nat) : Int), .int .i64 ((m : Nat) : Int), .int .i64 ((b : Nat) : Int), .pointer (some ⟨g3, 0, none⟩), .int .i64 (((a + b) / 2 : Nat) : Int), .int .i64 ((((a + b) / 2) + m : Nat) : Int)] .nil (by kernel_rfl) (fun b93 => ?_)
      refine thn_n ?_
      refine WP.seq ?_
      refine WP.seq ?_
      refine WP.pure {} [] [1, 2, 3, 4, 16, 17, 106] [.int .i64 ((a : Nat) : Int), .int .i64 ((m : Nat) : Int), .int .i64 ((b : Nat) : Int), .pointer (some ⟨g3, 0, none⟩), .int .i64 (((a + b) / 2 : Nat) : Int), .int .i64 ((((a + b) / 2) + m : Nat) : Int), .bool (decide ((((a + b) / 2 : Nat) : Int) < ((m : Nat) : Int)))] .nil (by kernel_rfl) (fun b94 => ?_)
      refine thn_n ?_
      refine WP.test (p := (((a + b) / 2 : Nat) : Int) < ((m : Nat) : Int)) rfl Bp.dec (fun h95 => ?_) (fun h95 => ?_)
      · refine WP.seq ?_
        refine WP.pure { subs := [109] } [.int .i64 (((((a + b) / 2) + m) - b : Nat) : Int)] [1, 2, 3, 4, 16, 17, 18] [.int .i64 ((a : Nat) : Int), .int .i64 ((m : Nat) : Int), .int .i64 ((b : Nat) : Int), .pointer (some ⟨g3, 0, none⟩), .int .i64 (((a + b) / 2 : Nat) : Int), .int .i64 ((((a + b) / 2) + m : Nat) : Int), .int .i64 (((((a + b) / 2) + m) - b : Nat) : Int)] (.cons (show Rng .i64 (((((a + b) / 2) + m : Nat) : Int) - ((b : Nat) : Int)) from Rng.i64 (by omega)) (.cons (show (.int .i64 (((((a + b) / 2) + m : Nat) : Int) - ((b : Nat) : Int)) : Go.Value) = .int .i64 (((((a + b) / 2) + m) - b : Nat) : Int) from congrArg (Value.int .i64) ((show ((((a + b) / 2) + m : Nat) : Int) - ((b : Nat) : Int) = (((((a + b) / 2) + m) - b : Nat) : Int) by omega))) .nil)) (by kernel_rfl) (fun b96 => ?_)
        refine thn_n ?_
        refine WP.pure {} [] [1, 2, 3, 4, 16, 17, 18, 19] [.int .i64 ((a : Nat) : Int), .int .i64 ((m : Nat) : Int), .int .i64 ((b : Nat) : Int), .pointer (some ⟨g3, 0, none⟩), .int .i64 (((a + b) / 2 : Nat) : Int), .int .i64 ((((a + b) / 2) + m : Nat) : Int), .int .i64 (((((a + b) / 2) + m) - b : Nat) : Int), .int .i64 (((a + b) / 2 : Nat) : Int)] .nil (by kernel_rfl) (fun b97 => ?_)
        refine thn_n ?_
        refine WP.seq ?_
        refine WP.pure { subs := [114] } [.int .i64 (((((a + b) / 2) + m) - 1 : Nat) : Int)] [1, 2, 3, 4, 16, 17, 18, 19, 20] [.int .i64 ((a : Nat) : Int), .int .i64 ((m : Nat) : Int), .int .i64 ((b : Nat) : Int), .pointer (some ⟨g3, 0, none⟩), .int .i64 (((a + b) / 2 : Nat) : Int), .int .i64 ((((a + b) / 2) + m : Nat) : Int), .int .i64 (((((a + b) / 2) + m) - b : Nat) : Int), .int .i64 (((a + b) / 2 : Nat) : Int), .int .i64 (((((a + b) / 2) + m) - 1 : Nat) : Int)] (.cons (show Rng .i64 (((((a + b) / 2) + m : Nat) : Int) - 1) from Rng.i64 (by omega)) (.cons (show (.int .i64 (((((a + b) / 2) + m : Nat) : Int) - 1) : Go.Value) = .int .i64 (((((a + b) / 2) + m) - 1 : Nat) : Int) from congrArg (Value.int .i64) ((show ((((a + b) / 2) + m : Nat) : Int) - 1 = (((((a + b) / 2) + m) - 1 : Nat) : Int) by omega))) .nil)) (by kernel_rfl) (fun b98 => ?_)
        refine thn_n ?_
        refine WP.seq ?_
        refine WP.block ?_
        refine WP.loop (fun mz_ e99 w100 => ∃ (s : Nat) (r : Nat), mz_ = r - s ∧ (((((a + b) / 2) + m) - b ≤ s ∧ s ≤ r ∧ r ≤ (a + b) / 2) ∧ Srh R l ((((a + b) / 2) + m) - 1) ((((a + b) / 2) + m) - b) s r ((a + b) / 2)) ∧ List.map e99 [1, 2, 3, 4, 16, 17, 18, 19, 20] = [.int .i64 ((a : Nat) : Int), .int .i64 ((m : Nat) : Int), .int .i64 ((b : Nat) : Int), .pointer (some ⟨g3, 0, none⟩), .int .i64 (((a + b) / 2 : Nat) : Int), .int .i64 ((((a + b) / 2) + m : Nat) : Int), .int .i64 ((s : Nat) : Int), .int .i64 ((r : Nat) : Int), .int .i64 (((((a + b) / 2) + m) - 1 : Nat) : Int)] ∧ Hp w0 Non (Res.row g3 [.func (.func g) #[] #[c1, c2], .func (.func sf) #[] #[s1, s2]] 164 :: Res.own 3 1 (.slice sa sn sc) sn (List.flatMap (fun (y : Int) => [Go.Value.int .i64 y]) l) :: L) w100) (((a + b) / 2) - ((((a + b) / 2) + m) - b)) ⟨(((a + b) / 2) + m) - b, (a + b) / 2, rfl, ⟨by omega, fun x e1 e2 => by omega, fun x e1 e2 => by omega⟩, by kernel_rfl, hp2⟩ ?_
        rintro _ e99 w100 ⟨s, r, rfl, hI102, hE103, hp101⟩
        obtain ⟨b104, rfl⟩ := toMk hE103
        clear hE103
        obtain ⟨pa, pb⟩ := hI102
        refine WP.seq ?_
        refine WP.seq ?_
        refine WP.pure {} [] [1, 2, 3, 4, 16, 17, 18, 19, 20, 117] [.int .i64 ((a : Nat) : Int), .int .i64 ((m : Nat) : Int), .int .i64 ((b : Nat) : Int), .pointer (some ⟨g3, 0, none⟩), .int .i64 (((a + b) / 2 : Nat) : Int), .int .i64 ((((a + b) / 2) + m : Nat) : Int), .int .i64 ((s : Nat) : Int), .int .i64 ((r : Nat) : Int), .int .i64 (((((a + b) / 2) + m) - 1 : Nat) : Int), .bool (decide (((s : Nat) : Int) < ((r : Nat) : Int)))] .nil (by kernel_rfl) (fun b105 => ?_)
        refine thn_n ?_
        refine WP.test (p := ((s : Nat) : Int) < ((r : Nat) : Int)) rfl Bp.dec (fun h106 => ?_) (fun h106 => ?_)
        · refine WP.skip ?_
          refine thn_n ?_
          refine WP.block ?_
          refine WP.seq ?_
          refine WP.pure { subs := [120, 122] } [.int .i64 ((s + r : Nat) : Int), .int .u64 (((s + r) / 2 : Nat) : Int)] [1, 2, 3, 4, 16, 17, 18, 19, 20, 21] [.int .i64 ((a : Nat) : Int), .int .i64 ((m : Nat) : Int), .int .i64 ((b : Nat) : Int), .pointer (some ⟨g3, 0, none⟩), .int .i64 (((a + b) / 2 : Nat) : Int), .int .i64 ((((a + b) / 2) + m : Nat) : Int), .int .i64 ((s : Nat) : Int), .int .i64 ((r : Nat) : Int), .int .i64 (((((a + b) / 2) + m) - 1 : Nat) : Int), .int .i64 (((s + r) / 2 : Nat) : Int)] (.cons (show Rng .i64 (((s : Nat) : Int) + ((r : Nat) : Int)) from Rng.i64 (by omega)) (.cons (show (.int .i64 (((s : Nat) : Int) + ((r : Nat) : Int)) : Go.Value) = .int .i64 ((s + r : Nat) : Int) from congrArg (Value.int .i64) ((show ((s : Nat) : Int) + ((r : Nat) : Int) = ((s + r : Nat) : Int) by omega))) (.cons (show Rng .u64 (((s + r : Nat) : Int)) from Rng.u64 (by omega)) (.cons (show (0 : Int) ≤ 1 from by omega) (.cons (show (.int .u64 (((s + r : Nat) : Int).fdiv (2 ^ (min (1 : Int).toNat IntKind.u64.bits))) : Go.Value) = .int .u64 (((s + r) / 2 : Nat) : Int) from congrArg (Value.int .u64) (half_shr (a := s + r))) (.cons (show Rng .i64 ((((s + r) / 2 : Nat) : Int)) from Rng.i64 (by omega)) .nil)))))) (by kernel_rfl) (fun b107 => ?_)
          refine thn_n ?_
          refine WP.seq ?_
          refine WP.region _ rfl (by kernel_rfl) ?_
          refine OPS.batch 6 { subs := [128] } [.func (.func g) #[] #[c1, c2], .int .i64 ((((((a + b) / 2) + m) - 1) - ((s + r) / 2) : Nat) : Int)] [1, 2, 3, 4, 16, 17, 18, 19, 20, 21, 125, 128, 129] [.int .i64 ((a : Nat) : Int), .int .i64 ((m : Nat) : Int), .int .i64 ((b : Nat) : Int), .pointer (some ⟨g3, 0, none⟩), .int .i64 (((a + b) / 2 : Nat) : Int), .int .i64 ((((a + b) / 2) + m : Nat) : Int), .int .i64 ((s : Nat) : Int), .int .i64 ((r : Nat) : Int), .int .i64 (((((a + b) / 2) + m) - 1 : Nat) : Int), .int .i64 (((s + r) / 2 : Nat) : Int), .func (.func g) #[] #[c1, c2], .int .i64 ((((((a + b) / 2) + m) - 1) - ((s + r) / 2) : Nat) : Int), .int .i64 (((s + r) / 2 : Nat) : Int)] (.cons (Ld.row1 (P := Try.prog) (t := 140) (o := 0) (v := .func (.func g) #[] #[c1, c2]) hp101.get0 (by kernel_rfl)) (.cons (show Rng .i64 ((((((a + b) / 2) + m) - 1 : Nat) : Int) - (((s + r) / 2 : Nat) : Int)) from Rng.i64 (by omega)) (.cons (show (.int .i64 ((((((a + b) / 2) + m) - 1 : Nat) : Int) - (((s + r) / 2 : Nat) : Int)) : Go.Value) = .int .i64 ((((((a + b) / 2) + m) - 1) - ((s + r) / 2) : Nat) : Int) from congrArg (Value.int .i64) ((show (((((a + b) / 2) + m) - 1 : Nat) : Int) - (((s + r) / 2 : Nat) : Int) = ((((((a + b) / 2) + m) - 1) - ((s + r) / 2) : Nat) : Int) by omega))) .nil))) (by kernel_rfl) (fun b108 => ?_)
          have hp111 := hp101.pull1
          refine OPS.cons (opStep.callE (some 130) [.int .i64 ((((((a + b) / 2) + m) - 1) - ((s + r) / 2) : Nat) : Int), .int .i64 (((s + r) / 2 : Nat) : Int), c1, c2] rfl hless.1 rfl (hless.2 l [Res.row g3 [.func (.func g) #[] #[c1, c2], .func (.func sf) #[] #[s1, s2]] 164] _ (((((a + b) / 2) + m) - 1) - ((s + r) / 2)) ((s + r) / 2) (show List.Perm l l0 from by first | assumption | exact hql) (by omega) (by omega) hp111) ?_)
          rintro _ w112 ⟨b115, rfl, hb116, hp113⟩
          refine ⟨_, rfl, ?_⟩
          have hp114 : Hp w0 Non (Res.own 3 1 (.slice sa sn sc) sn (List.flatMap (fun (y : Int) => [Go.Value.int .i64 y]) l) :: Res.row g3 [.func (.func g) #[] #[c1, c2], .func (.func sf) #[] #[s1, s2]] 164 :: L) w112 := hp113
          refine OPS.batch 1 {} [] [1, 2, 3, 4, 16, 17, 18, 19, 20, 21, 131] [.int .i64 ((a : Nat) : Int), .int .i64 ((m : Nat) : Int), .int .i64 ((b : Nat) : Int), .pointer (some ⟨g3, 0, none⟩), .int .i64 (((a + b) / 2 : Nat) : Int), .int .i64 ((((a + b) / 2) + m : Nat) : Int), .int .i64 ((s : Nat) : Int), .int .i64 ((r : Nat) : Int), .int .i64 (((((a + b) / 2) + m) - 1 : Nat) : Int), .int .i64 (((s + r) / 2 : Nat) : Int), .bool (!b115)] .nil (by kernel_rfl) (fun b117 => ?_)
          refine OPS.nil ?_
          refine thn_n ?_
          refine WP.test (p := ¬ (lt l[((((a + b) / 2) + m) - 1) - ((s + r) / 2)]! l[(s + r) / 2]!)) rfl (Bp.not hb116) (fun h118 => ?_) (fun h118 => ?_)
          · refine WP.pure { subs := [133] } [.int .i64 ((((s + r) / 2) + 1 : Nat) : Int)] [1, 2, 3, 4, 16, 17, 18, 19, 20] [.int .i64 ((a : Nat) : Int), .int .i64 ((m : Nat) : Int), .int .i64 ((b : Nat) : Int), .pointer (some ⟨g3, 0, none⟩), .int .i64 (((a + b) / 2 : Nat) : Int), .int .i64 ((((a + b) / 2) + m : Nat) : Int), .int .i64 ((((s + r) / 2) + 1 : Nat) : Int), .int .i64 ((r : Nat) : Int), .int .i64 (((((a + b) / 2) + m) - 1 : Nat) : Int)] (.cons (show Rng .i64 ((((s + r) / 2 : Nat) : Int) + 1) from Rng.i64 (by omega)) (.cons (show (.int .i64 ((((s + r) / 2 : Nat) : Int) + 1) : Go.Value) = .int .i64 ((((s + r) / 2) + 1 : Nat) : Int) from congrArg (Value.int .i64) ((show (((s + r) / 2 : Nat) : Int) + 1 = ((((s + r) / 2) + 1 : Nat) : Int) by omega))) .nil)) (by kernel_rfl) (fun b119 => ?_)
            refine blk_n ?_
            refine thn_n ?_
            exact ⟨(r) - (((s + (r)) / 2) + 1), (by omega), ((s + r) / 2) + 1, r, rfl, ⟨by omega, srh_no hcm hp (by omega) hu1 hu2 hx pb (by omega) (by omega) (by omega) (by omega) (by omega) (by omega) (by omega) (by omega) h118⟩, by kernel_rfl, (((hp114.pull0).pull1).sub (.cons_cons _ (.cons_cons _ (.refl _))))⟩
          · replace h118 := Classical.not_not.1 h118
            refine WP.pure {} [] [1, 2, 3, 4, 16, 17, 18, 19, 20] [.int .i64 ((a : Nat) : Int), .int .i64 ((m : Nat) : Int), .int .i64 ((b : Nat) : Int), .pointer (some ⟨g3, 0, none⟩), .int .i64 (((a + b) / 2 : Nat) : Int), .int .i64 ((((a + b) / 2) + m : Nat) : Int), .int .i64 ((s : Nat) : Int), .int .i64 (((s + r) / 2 : Nat) : Int), .int .i64 (((((a + b) / 2) + m) - 1 : Nat) : Int)] .nil (by kernel_rfl) (fun b120 => ?_)
            refine blk_n ?_
            refine thn_n ?_
            exact ⟨((s + r) / 2) - (s), (by omega), s, (s + r) / 2, rfl, ⟨by omega, srh_yes hcm hp (by omega) hu1 hu2 hx pb (by omega) (by omega) (by omega) (by omega) (by omega) (by omega) (by omega) (by omega) (by simpa using h118)⟩, by kernel_rfl, (((hp114.pull0).pull1).sub (.cons_cons _ (.cons_cons _ (.refl _))))⟩
        · refine WP.exit ?_
          refine thn_x ?_
          refine thn_x ?_
          refine blk_hit ?_
          refine thn_n ?_
          refine WP.seq ?_
          obtain rfl : s = r := by omega
          have hmid := mid_found (e := ((a + b) / 2 + m - s)) (c := ((a + b) / 2)) pb (by omega) (by omega) (by omega) rfl rfl (by omega) h1 h2
          have hmle := hmid.le
          refine WP.pure { subs := [137] } [.int .i64 (((((a + b) / 2) + m) - s : Nat) : Int)] [1, 2, 3, 4, 16, 18, 22] [.int .i64 ((a : Nat) : Int), .int .i64 ((m : Nat) : Int), .int .i64 ((b : Nat) : Int), .pointer (some ⟨g3, 0, none⟩), .int .i64 (((a + b) / 2 : Nat) : Int), .int .i64 ((s : Nat) : Int), .int .i64 (((((a + b) / 2) + m) - s : Nat) : Int)] (.cons (show Rng .i64 (((((a + b) / 2) + m : Nat) : Int) - ((s : Nat) : Int)) from Rng.i64 (by omega)) (.cons (show (.int .i64 (((((a + b) / 2) + m : Nat) : Int) - ((s : Nat) : Int)) : Go.Value) = .int .i64 (((((a + b) / 2) + m) - s : Nat) : Int) from congrArg (Value.int .i64) ((show ((((a + b) / 2) + m : Nat) : Int) - ((s : Nat) : Int) = (((((a + b) / 2) + m) - s : Nat) : Int) by omega))) .nil)) (by kernel_rfl) (fun b121 => ?_)
          refine thn_n ?_
          refine WP.seq ?_
          refine WP.cut (fun e131 w132 => ∃ (x129 : Bool), (True) ∧ Bp x129 ((((s : Nat) : Int) < ((m : Nat) : Int)) ∧ (((m : Nat) : Int) < (((((a + b) / 2) + m) - s : Nat) : Int))) ∧ List.map e131 [1, 2, 3, 4, 16, 18, 22, 145] = [.int .i64 ((a : Nat) : Int), .int .i64 ((m : Nat) : Int), .int .i64 ((b : Nat) : Int), .pointer (some ⟨g3, 0, none⟩), .int .i64 (((a + b) / 2 : Nat) : Int), .int .i64 ((s : Nat) : Int), .int .i64 (((((a + b) / 2) + m) - s : Nat) : Int), .bool x129] ∧ Hp w0 Non (Res.row g3 [.func (.func g) #[] #[c1, c2], .func (.func sf) #[] #[s1, s2]] 164 :: Res.own 3 1 (.slice sa sn sc) sn (List.flatMap (fun (y : Int) => [Go.Value.int .i64 y]) l) :: L) w132) ?_ ?_
          · refine WP.region _ rfl (by kernel_rfl) ?_
            refine OPS.batch 4 {} [] [1, 2, 3, 4, 16, 18, 22, 141] [.int .i64 ((a : Nat) : Int), .int .i64 ((m : Nat) : Int), .int .i64 ((b : Nat) : Int), .pointer (some ⟨g3, 0, none⟩), .int .i64 (((a + b) / 2 : Nat) : Int), .int .i64 ((s : Nat) : Int), .int .i64 (((((a + b) / 2) + m) - s : Nat) : Int), .bool (decide (((s : Nat) : Int) < ((m : Nat) : Int)))] .nil (by kernel_rfl) (fun b123 => ?_)
            by_cases h124 : ((s : Nat) : Int) < ((m : Nat) : Int)
            · refine OPS.batch 0 {} [] [1, 2, 3, 4, 16, 18, 22, 141] [.int .i64 ((a : Nat) : Int), .int .i64 ((m : Nat) : Int), .int .i64 ((b : Nat) : Int), .pointer (some ⟨g3, 0, none⟩), .int .i64 (((a + b) / 2 : Nat) : Int), .int .i64 ((s : Nat) : Int), .int .i64 (((((a + b) / 2) + m) - s : Nat) : Int), .bool (decide (((s : Nat) : Int) < ((m : Nat) : Int)))] .nil (by kernel_rfl) (fun b125 => ?_)
              refine OPS.re [.int .i64 ((a : Nat) : Int), .int .i64 ((m : Nat) : Int), .int .i64 ((b : Nat) : Int), .pointer (some ⟨g3, 0, none⟩), .int .i64 (((a + b) / 2 : Nat) : Int), .int .i64 ((s : Nat) : Int), .int .i64 (((((a + b) / 2) + m) - s : Nat) : Int), .bool true] (by rw [show (decide (((s : Nat) : Int) < ((m : Nat) : Int))) = true from Bp.dec.tt h124]) ?_
              refine OPS.batch 4 { wraps := [145] } [] [1, 2, 3, 4, 16, 18, 22, 145] [.int .i64 ((a : Nat) : Int), .int .i64 ((m : Nat) : Int), .int .i64 ((b : Nat) : Int), .pointer (some ⟨g3, 0, none⟩), .int .i64 (((a + b) / 2 : Nat) : Int), .int .i64 ((s : Nat) : Int), .int .i64 (((((a + b) / 2) + m) - s : Nat) : Int), .bool (decide (((m : Nat) : Int) < (((((a + b) / 2) + m) - s : Nat) : Int)))] .nil (by kernel_rfl) (fun b126 => ?_)
              refine OPS.nil ?_
              refine thn_n ?_
              exact ⟨decide (((m : Nat) : Int) < (((((a + b) / 2) + m) - s : Nat) : Int)), trivial, Bp.of Bp.dec (by first | (simp only [h124, iff_false, false_iff, iff_true, true_iff, Classical.not_not, and_true, true_and, and_false, false_and, or_true, true_or, or_false, false_or, not_true_eq_false, not_false_eq_true, and_self, or_self, iff_self]; done) | (simp [h124]; done) | simp_all), by kernel_rfl, hp101⟩
            · refine OPS.batch 0 {} [] [1, 2, 3, 4, 16, 18, 22, 141] [.int .i64 ((a : Nat) : Int), .int .i64 ((m : Nat) : Int), .int .i64 ((b : Nat) : Int), .pointer (some ⟨g3, 0, none⟩), .int .i64 (((a + b) / 2 : Nat) : Int), .int .i64 ((s : Nat) : Int), .int .i64 (((((a + b) / 2) + m) - s : Nat) : Int), .bool (decide (((s : Nat) : Int) < ((m : Nat) : Int)))] .nil (by kernel_rfl) (fun b127 => ?_)
              refine OPS.re [.int .i64 ((a : Nat) : Int), .int .i64 ((m : Nat) : Int), .int .i64 ((b : Nat) : Int), .pointer (some ⟨g3, 0, none⟩), .int .i64 (((a + b) / 2 : Nat) : Int), .int .i64 ((s : Nat) : Int), .int .i64 (((((a + b) / 2) + m) - s : Nat) : Int), .bool false] (by rw [show (decide (((s : Nat) : Int) < ((m : Nat) : Int))) = false from Bp.dec.ff h124]) ?_
              refine OPS.batch 4 { wraps := [145] } [] [1, 2, 3, 4, 16, 18, 22, 145] [.int .i64 ((a : Nat) : Int), .int .i64 ((m : Nat) : Int), .int .i64 ((b : Nat) : Int), .pointer (some ⟨g3, 0, none⟩), .int .i64 (((a + b) / 2 : Nat) : Int), .int .i64 ((s : Nat) : Int), .int .i64 (((((a + b) / 2) + m) - s : Nat) : Int), .bool false] .nil (by kernel_rfl) (fun b128 => ?_)
              refine OPS.nil ?_
              refine thn_n ?_
              exact ⟨false, trivial, Bp.of Bp.f (by first | (simp only [h124, iff_false, false_iff, iff_true, true_iff, Classical.not_not, and_true, true_and, and_false, false_and, or_true, true_or, or_false, false_or, not_true_eq_false, not_false_eq_true, and_self, or_self, iff_self]; done) | (simp [h124]; done) | simp_all), by kernel_rfl, hp101⟩
          rintro e131 w132 ⟨x129, hd134, hb130, hE135, hp133⟩
          obtain ⟨b136, rfl⟩ := toMk hE135
          clear hE135
          clear hd134
          refine WP.test (p := (((s : Nat) : Int) < ((m : Nat) : Int)) ∧ (((m : Nat) : Int) < (((((a + b) / 2) + m) - s : Nat) : Int))) rfl hb130 (fun h137 => ?_) (fun h137 => ?_)
          · refine WP.region _ rfl (by kernel_rfl) ?_
            refine OPS.batch 4 {} [.agg #[.func (.func g) #[] #[c1, c2], .func (.func sf) #[] #[s1, s2]]] [1, 3, 4, 16, 18, 22, 146, 147, 148, 149] [.int .i64 ((a : Nat) : Int), .int .i64 ((b : Nat) : Int), .pointer (some ⟨g3, 0, none⟩), .int .i64 (((a + b) / 2 : Nat) : Int), .int .i64 ((s : Nat) : Int), .int .i64 (((((a + b) / 2) + m) - s : Nat) : Int), .agg #[.func (.func g) #[] #[c1, c2], .func (.func sf) #[] #[s1, s2]], .int .i64 ((s : Nat) : Int), .int .i64 ((m : Nat) : Int), .int .i64 (((((a + b) / 2) + m) - s : Nat) : Int)] (.cons (show Ld Try.prog w132 164 ⟨g3, 0, none⟩ (.agg #[.func (.func g) #[] #[c1, c2], .func (.func sf) #[] #[s1, s2]]) from Ld.rowN (cs := [.func (.func g) #[] #[c1, c2], .func (.func sf) #[] #[s1, s2]]) hp133.get0 (by kernel_rfl)) .nil) (by kernel_rfl) (fun b138 => ?_)
            have hp141 := hp133.pull1
            refine OPS.cons (opStep.call (some 150) [.agg #[.func (.func g) #[] #[c1, c2], .func (.func sf) #[] #[s1, s2]], .int .i64 ((s : Nat) : Int), .int .i64 ((m : Nat) : Int), .int .i64 (((((a + b) / 2) + m) - s : Nat) : Int)] (by kernel_rfl) (st_rotate w0 g sf c1 c2 s1 s2 sa sn sc l0 lt R hcm hn0 hnb _ (hless.app _) (hswap.app _) s m ((((a + b) / 2) + m) - s) l (by omega) (by omega) (by omega) (show List.Perm l l0 from by first | assumption | exact hql) _ hp141) ?_)
            rintro _ w142 ⟨rfl, q144, hq145, hp143⟩
            refine ⟨_, rfl, ?_⟩
            refine OPS.nil ?_
            refine thn_n ?_
            refine WP.seq ?_
            refine WP.cut (fun e155 w156 => ∃ (x153 : Bool), (True) ∧ Bp x153 ((((a : Nat) : Int) < ((s : Nat) : Int)) ∧ (((s : Nat) : Int) < (((a + b) / 2 : Nat) : Int))) ∧ List.map e155 [1, 3, 4, 16, 18, 22, 158] = [.int .i64 ((a : Nat) : Int), .int .i64 ((b : Nat) : Int), .pointer (some ⟨g3, 0, none⟩), .int .i64 (((a + b) / 2 : Nat) : Int), .int .i64 ((s : Nat) : Int), .int .i64 (((((a + b) / 2) + m) - s : Nat) : Int), .bool x153] ∧ Hp w0 Non (Res.own 3 1 (.slice sa sn sc) sn (List.flatMap (fun (y : Int) => [Go.Value.int .i64 y]) q144) :: Res.row g3 [.func (.func g) #[] #[c1, c2], .func (.func sf) #[] #[s1, s2]] 164 :: L) w156) ?_ ?_
            · refine WP.region _ rfl (by kernel_rfl) ?_
              refine OPS.batch 4 {} [] [1, 3, 4, 16, 18, 22, 154] [.int .i64 ((a : Nat) : Int), .int .i64 ((b : Nat) : Int), .pointer (some ⟨g3, 0, none⟩), .int .i64 (((a + b) / 2 : Nat) : Int), .int .i64 ((s : Nat) : Int), .int .i64 (((((a + b) / 2) + m) - s : Nat) : Int), .bool (decide (((a : Nat) : Int) < ((s : Nat) : Int)))] .nil (by kernel_rfl) (fun b147 => ?_)
              by_cases h148 : ((a : Nat) : Int) < ((s : Nat) : Int)
              · refine OPS.batch 0 {} [] [1, 3, 4, 16, 18, 22, 154] [.int .i64 ((a : Nat) : Int), .int .i64 ((b : Nat) : Int), .pointer (some ⟨g3, 0, none⟩), .int .i64 (((a + b) / 2 : Nat) : Int), .int .i64 ((s : Nat) : Int), .int .i64 (((((a + b) / 2) + m) - s : Nat) : Int), .bool (decide (((a : Nat) : Int) < ((s : Nat) : Int)))] .nil (by kernel_rfl) (fun b149 => ?_)
                refine OPS.re [.int .i64 ((a : Nat) : Int), .int .i64 ((b : Nat) : Int), .pointer (some ⟨g3, 0, none⟩), .int .i64 (((a + b) / 2 : Nat) : Int), .int .i64 ((s : Nat) : Int), .int .i64 (((((a + b) / 2) + m) - s : Nat) : Int), .bool true] (by rw [show (decide (((a : Nat) : Int) < ((s : Nat) : Int))) = true from Bp.dec.tt h148]) ?_
                refine OPS.batch 4 { wraps := [158] } [] [1, 3, 4, 16, 18, 22, 158] [.int .i64 ((a : Nat) : Int), .int .i64 ((b : Nat) : Int), .pointer (some ⟨g3, 0, none⟩), .int .i64 (((a + b) / 2 : Nat) : Int), .int .i64 ((s : Nat) : Int), .int .i64 (((((a + b) / 2) + m) - s : Nat) : Int), .bool (decide (((s : Nat) : Int) < (((a + b) / 2 : Nat) : Int)))] .nil (by kernel_rfl) (fun b150 => ?_)
                refine OPS.nil ?_
                refine thn_n ?_
                exact ⟨decide (((s : Nat) : Int) < (((a + b) / 2 : Nat) : Int)), trivial, Bp.of Bp.dec (by first | (simp only [h148, iff_false, false_iff, iff_true, true_iff, Classical.not_not, and_true, true_and, and_false, false_and, or_true, true_or, or_false, false_or, not_true_eq_false, not_false_eq_true, and_self, or_self, iff_self]; done) | (simp [h148]; done) | simp_all), by kernel_rfl, hp143⟩
              · refine OPS.batch 0 {} [] [1, 3, 4, 16, 18, 22, 154] [.int .i64 ((a : Nat) : Int), .int .i64 ((b : Nat) : Int), .pointer (some ⟨g3, 0, none⟩), .int .i64 (((a + b) / 2 : Nat) : Int), .int .i64 ((s : Nat) : Int), .int .i64 (((((a + b) / 2) + m) - s : Nat) : Int), .bool (decide (((a : Nat) : Int) < ((s : Nat) : Int)))] .nil (by kernel_rfl) (fun b151 => ?_)
                refine OPS.re [.int .i64 ((a : Nat) : Int), .int .i64 ((b : Nat) : Int), .pointer (some ⟨g3, 0, none⟩), .int .i64 (((a + b) / 2 : Nat) : Int), .int .i64 ((s : Nat) : Int), .int .i64 (((((a + b) / 2) + m) - s : Nat) : Int), .bool false] (by rw [show (decide (((a : Nat) : Int) < ((s : Nat) : Int))) = false from Bp.dec.ff h148]) ?_
                refine OPS.batch 4 { wraps := [158] } [] [1, 3, 4, 16, 18, 22, 158] [.int .i64 ((a : Nat) : Int), .int .i64 ((b : Nat) : Int), .pointer (some ⟨g3, 0, none⟩), .int .i64 (((a + b) / 2 : Nat) : Int), .int .i64 ((s : Nat) : Int), .int .i64 (((((a + b) / 2) + m) - s : Nat) : Int), .bool false] .nil (by kernel_rfl) (fun b152 => ?_)
                refine OPS.nil ?_
                refine thn_n ?_
                exact ⟨false, trivial, Bp.of Bp.f (by first | (simp only [h148, iff_false, false_iff, iff_true, true_iff, Classical.not_not, and_true, true_and, and_false, false_and, or_true, true_or, or_false, false_or, not_true_eq_false, not_false_eq_true, and_self, or_self, iff_self]; done) | (simp [h148]; done) | simp_all), by kernel_rfl, hp143⟩
            rintro e155 w156 ⟨x153, hd158, hb154, hE159, hp157⟩
            obtain ⟨b160, rfl⟩ := toMk hE159
            clear hE159
            clear hd158
            refine WP.test (p := (((a : Nat) : Int) < ((s : Nat) : Int)) ∧ (((s : Nat) : Int) < (((a + b) / 2 : Nat) : Int))) rfl hb154 (fun h161 => ?_) (fun h161 => ?_)
            · refine WP.region _ rfl (by kernel_rfl) ?_
              refine OPS.batch 4 {} [.agg #[.func (.func g) #[] #[c1, c2], .func (.func sf) #[] #[s1, s2]]] [3, 4, 16, 22, 159, 160, 161, 162] [.int .i64 ((b : Nat) : Int), .pointer (some ⟨g3, 0, none⟩), .int .i64 (((a + b) / 2 : Nat) : Int), .int .i64 (((((a + b) / 2) + m) - s : Nat) : Int), .agg #[.func (.func g) #[] #[c1, c2], .func (.func sf) #[] #[s1, s2]], .int .i64 ((a : Nat) : Int), .int .i64 ((s : Nat) : Int), .int .i64 (((a + b) / 2 : Nat) : Int)] (.cons (show Ld Try.prog w156 164 ⟨g3, 0, none⟩ (.agg #[.func (.func g) #[] #[c1, c2], .func (.func sf) #[] #[s1, s2]]) from Ld.rowN (cs := [.func (.func g) #[] #[c1, c2], .func (.func sf) #[] #[s1, s2]]) hp157.get1 (by kernel_rfl)) .nil) (by kernel_rfl) (fun b162 => ?_)
              have hp165 := hp157.pull0
              refine OPS.cons (opStep.call (some 163) [.agg #[.func (.func g) #[] #[c1, c2], .func (.func sf) #[] #[s1, s2]], .int .i64 ((a : Nat) : Int), .int .i64 ((s : Nat) : Int), .int .i64 (((a + b) / 2 : Nat) : Int)] (by kernel_rfl) (ih (((a + b) / 2) - a) (by omega) _ (hless.app _) (hswap.app _) a s ((a + b) / 2) q144 _ rfl (by omega) (by omega) (by omega) (show List.Perm q144 l0 from by first | assumption | exact hql | exact hq145.1.trans hp) (mid_rot hcm hmid hu1 hu2 hx hq145.2).u1 (mid_rot hcm hmid hu1 hu2 hx hq145.2).u2 (mid_rot hcm hmid hu1 hu2 hx hq145.2).x1 hp165) ?_)
              rintro _ w166 ⟨rfl, q168, hq169, hp167⟩
              refine ⟨_, rfl, ?_⟩
              refine OPS.nil ?_
              refine thn_n ?_
              refine WP.cut (fun e179 w180 => ∃ (x177 : Bool), (True) ∧ Bp x177 (((((a + b) / 2 : Nat) : Int) < (((((a + b) / 2) + m) - s : Nat) : Int)) ∧ ((((((a + b) / 2) + m) - s : Nat) : Int) < ((b : Nat) : Int))) ∧ List.map e179 [3, 4, 16, 22, 171] = [.int .i64 ((b : Nat) : Int), .pointer (some ⟨g3, 0, none⟩), .int .i64 (((a + b) / 2 : Nat) : Int), .int .i64 (((((a + b) / 2) + m) - s : Nat) : Int), .bool x177] ∧ Hp w0 Non (Res.own 3 1 (.slice sa sn sc) sn (List.flatMap (fun (y : Int) => [Go.Value.int .i64 y]) q168) :: Res.row g3 [.func (.func g) #[] #[c1, c2], .func (.func sf) #[] #[s1, s2]] 164 :: L) w180) ?_ ?_
              · refine WP.region _ rfl (by kernel_rfl) ?_
                refine OPS.batch 4 {} [] [3, 4, 16, 22, 167] [.int .i64 ((b : Nat) : Int), .pointer (some ⟨g3, 0, none⟩), .int .i64 (((a + b) / 2 : Nat) : Int), .int .i64 (((((a + b) / 2) + m) - s : Nat) : Int), .bool (decide ((((a + b) / 2 : Nat) : Int) < (((((a + b) / 2) + m) - s : Nat) : Int)))] .nil (by kernel_rfl) (fun b171 => ?_)
                by_cases h172 : (((a + b) / 2 : Nat) : Int) < (((((a + b) / 2) + m) - s : Nat) : Int)
                · refine OPS.batch 0 {} [] [3, 4, 16, 22, 167] [.int .i64 ((b : Nat) : Int), .pointer (some ⟨g3, 0, none⟩), .int .i64 (((a + b) / 2 : Nat) : Int), .int .i64 (((((a + b) / 2) + m) - s : Nat) : Int), .bool (decide ((((a + b) / 2 : Nat) : Int) < (((((a + b) / 2) + m) - s : Nat) : Int)))] .nil (by kernel_rfl) (fun b173 => ?_)
                  refine OPS.re [.int .i64 ((b : Nat) : Int), .pointer (some ⟨g3, 0, none⟩), .int .i64 (((a + b) / 2 : Nat) : Int), .int .i64 (((((a + b) / 2) + m) - s : Nat) : Int), .bool true] (by rw [show (decide ((((a + b) / 2 : Nat) : Int) < (((((a + b) / 2) + m) - s : Nat) : Int))) = true from Bp.dec.tt h172]) ?_
                  refine OPS.batch 4 { wraps := [171] } [] [3, 4, 16, 22, 171] [.int .i64 ((b : Nat) : Int), .pointer (some ⟨g3, 0, none⟩), .int .i64 (((a + b) / 2 : Nat) : Int), .int .i64 (((((a + b) / 2) + m) - s : Nat) : Int), .bool (decide ((((((a + b) / 2) + m) - s : Nat) : Int) < ((b : Nat) : Int)))] .nil (by kernel_rfl) (fun b174 => ?_)
                  refine OPS.nil ?_
                  refine thn_n ?_
                  exact ⟨decide ((((((a + b) / 2) + m) - s : Nat) : Int) < ((b : Nat) : Int)), trivial, Bp.of Bp.dec (by first | (simp only [h172, iff_false, false_iff, iff_true, true_iff, Classical.not_not, and_true, true_and, and_false, false_and, or_true, true_or, or_false, false_or, not_true_eq_false, not_false_eq_true, and_self, or_self, iff_self]; done) | (simp [h172]; done) | simp_all), by kernel_rfl, hp167⟩
                · refine OPS.batch 0 {} [] [3, 4, 16, 22, 167] [.int .i64 ((b : Nat) : Int), .pointer (some ⟨g3, 0, none⟩), .int .i64 (((a + b) / 2 : Nat) : Int), .int .i64 (((((a + b) / 2) + m) - s : Nat) : Int), .bool (decide ((((a + b) / 2 : Nat) : Int) < (((((a + b) / 2) + m) - s : Nat) : Int)))] .nil (by kernel_rfl) (fun b175 => ?_)
                  refine OPS.re [.int .i64 ((b : Nat) : Int), .pointer (some ⟨g3, 0, none⟩), .int .i64 (((a + b) / 2 : Nat) : Int), .int .i64 (((((a + b) / 2) + m) - s : Nat) : Int), .bool false] (by rw [show (decide ((((a + b) / 2 : Nat) : Int) < (((((a + b) / 2) + m) - s : Nat) : Int))) = false from Bp.dec.ff h172]) ?_
                  refine OPS.batch 4 { wraps := [171] } [] [3, 4, 16, 22, 171] [.int .i64 ((b : Nat) : Int), .pointer (some ⟨g3, 0, none⟩), .int .i64 (((a + b) / 2 : Nat) : Int), .int .i64 (((((a + b) / 2) + m) - s : Nat) : Int), .bool false] .nil (by kernel_rfl) (fun b176 => ?_)
                  refine OPS.nil ?_
                  refine thn_n ?_
                  exact ⟨false, trivial, Bp.of Bp.f (by first | (simp only [h172, iff_false, false_iff, iff_true, true_iff, Classical.not_not, and_true, true_and, and_false, false_and, or_true, true_or, or_false, false_or, not_true_eq_false, not_false_eq_true, and_self, or_self, iff_self]; done) | (simp [h172]; done) | simp_all), by kernel_rfl, hp167⟩
              rintro e179 w180 ⟨x177, hd182, hb178, hE183, hp181⟩
              obtain ⟨b184, rfl⟩ := toMk hE183
              clear hE183
              clear hd182
              refine WP.test (p := ((((a + b) / 2 : Nat) : Int) < (((((a + b) / 2) + m) - s : Nat) : Int)) ∧ ((((((a + b) / 2) + m) - s : Nat) : Int) < ((b : Nat) : Int))) rfl hb178 (fun h185 => ?_) (fun h185 => ?_)
              · refine WP.region _ rfl (by kernel_rfl) ?_
                refine OPS.batch 4 {} [.agg #[.func (.func g) #[] #[c1, c2], .func (.func sf) #[] #[s1, s2]]] [172, 173, 174, 175] [.agg #[.func (.func g) #[] #[c1, c2], .func (.func sf) #[] #[s1, s2]], .int .i64 (((a + b) / 2 : Nat) : Int), .int .i64 (((((a + b) / 2) + m) - s : Nat) : Int), .int .i64 ((b : Nat) : Int)] (.cons (show Ld Try.prog w180 164 ⟨g3, 0, none⟩ (.agg #[.func (.func g) #[] #[c1, c2], .func (.func sf) #[] #[s1, s2]]) from Ld.rowN (cs := [.func (.func g) #[] #[c1, c2], .func (.func sf) #[] #[s1, s2]]) hp181.get1 (by kernel_rfl)) .nil) (by kernel_rfl) (fun b186 => ?_)
                have hp189 := hp181.pull0
                refine OPS.cons (opStep.call (some 176) [.agg #[.func (.func g) #[] #[c1, c2], .func (.func sf) #[] #[s1, s2]], .int .i64 (((a + b) / 2 : Nat) : Int), .int .i64 (((((a + b) / 2) + m) - s : Nat) : Int), .int .i64 ((b : Nat) : Int)] (by kernel_rfl) (ih (b - ((a + b) / 2)) (by omega) _ (hless.app _) (hswap.app _) ((a + b) / 2) ((a + b) / 2 + m - s) b q168 _ rfl (by omega) (by omega) (by omega) (show List.Perm q168 l0 from by first | assumption | exact hql | exact hq169.1.perm.trans (hq145.1.trans hp)) ((mid_rot hcm hmid hu1 hu2 hx hq145.2).u3.mv hq169.1 (by omega)) ((mid_rot hcm hmid hu1 hu2 hx hq145.2).u4.mv hq169.1 (by omega)) ((mid_rot hcm hmid hu1 hu2 hx hq145.2).x2.mv hq169.1) hp189) ?_)
                rintro _ w190 ⟨rfl, q192, hq193, hp191⟩
                refine ⟨_, rfl, ?_⟩
                refine OPS.nil ?_
                refine bodyQ.ofN ?_
                refine bodyQ.of _ rfl [] trivial ?_
                have hm2 := mid_rot hcm hmid hu1 hu2 hx hq145.2
                have hmr := rot_mv (l := l) (a := a) (b := b) (s := s) (m := m) (e := ((a + b) / 2 + m - s)) hq145.1 hq145.2 (by omega)
                have hrl := hmr.len
                have hfin := mid_up (by omega) (by omega) hm2.all hq169.1 hq169.2 hq193.1 hq193.2
                exact ⟨rfl, _, ⟨hmr.trans hfin.2, hfin.1⟩, (hp191.sub (.cons_cons _ (.cons _ (.refl _))))⟩
              · refine WP.skip ?_
                refine bodyQ.ofN ?_
                refine bodyQ.of _ rfl [] trivial ?_
                have hm2 := mid_rot hcm hmid hu1 hu2 hx hq145.2
                have hmr := rot_mv (l := l) (a := a) (b := b) (s := s) (m := m) (e := ((a + b) / 2 + m - s)) hq145.1 hq145.2 (by omega)
                have hrl := hmr.len
                have hfin := mid_up (by omega) (by omega) hm2.all hq169.1 hq169.2 (Mv.refl _ _ _) ((skip_up hm2.u3 hm2.u4 (by omega) (by omega)).mv hq169.1 (by omega))
                exact ⟨rfl, _, ⟨hmr.trans hfin.2, hfin.1⟩, (hp181.sub (.cons_cons _ (.cons _ (.refl _))))⟩
            · refine WP.skip ?_
              refine thn_n ?_
              refine WP.cut (fun e203 w204 => ∃ (x201 : Bool), (True) ∧ Bp x201 (((((a + b) / 2 : Nat) : Int) < (((((a + b) / 2) + m) - s : Nat) : Int)) ∧ ((((((a + b) / 2) + m) - s : Nat) : Int) < ((b : Nat) : Int))) ∧ List.map e203 [3, 4, 16, 22, 171] = [.int .i64 ((b : Nat) : Int), .pointer (some ⟨g3, 0, none⟩), .int .i64 (((a + b) / 2 : Nat) : Int), .int .i64 (((((a + b) / 2) + m) - s : Nat) : Int), .bool x201] ∧ Hp w0 Non (Res.own 3 1 (.slice sa sn sc) sn (List.flatMap (fun (y : Int) => [Go.Value.int .i64 y]) q144) :: Res.row g3 [.func (.func g) #[] #[c1, c2], .func (.func sf) #[] #[s1, s2]] 164 :: L) w204) ?_ ?_
              · refine WP.region _ rfl (by kernel_rfl) ?_
                refine OPS.batch 4 {} [] [3, 4, 16, 22, 167] [.int .i64 ((b : Nat) : Int), .pointer (some ⟨g3, 0, none⟩), .int .i64 (((a + b) / 2 : Nat) : Int), .int .i64 (((((a + b) / 2) + m) - s : Nat) : Int), .bool (decide ((((a + b) / 2 : Nat) : Int) < (((((a + b) / 2) + m) - s : Nat) : Int)))] .nil (by kernel_rfl) (fun b195 => ?_)
                by_cases h196 : (((a + b) / 2 : Nat) : Int) < (((((a + b) / 2) + m) - s : Nat) : Int)
                · refine OPS.batch 0 {} [] [3, 4, 16, 22, 167] [.int .i64 ((b : Nat) : Int), .pointer (some ⟨g3, 0, none⟩), .int .i64 (((a + b) / 2 : Nat) : Int), .int .i64 (((((a + b) / 2) + m) - s : Nat) : Int), .bool (decide ((((a + b) / 2 : Nat) : Int) < (((((a + b) / 2) + m) - s : Nat) : Int)))] .nil (by kernel_rfl) (fun b197 => ?_)
                  refine OPS.re [.int .i64 ((b : Nat) : Int), .pointer (some ⟨g3, 0, none⟩), .int .i64 (((a + b) / 2 : Nat) : Int), .int .i64 (((((a + b) / 2) + m) - s : Nat) : Int), .bool true] (by rw [show (decide ((((a + b) / 2 : Nat) : Int) < (((((a + b) / 2) + m) - s : Nat) : Int))) = true from Bp.dec.tt h196]) ?_
                  refine OPS.batch 4 { wraps := [171] } [] [3, 4, 16, 22, 171] [.int .i64 ((b : Nat) : Int), .pointer (some ⟨g3, 0, none⟩), .int .i64 (((a + b) / 2 : Nat) : Int), .int .i64 (((((a + b) / 2) + m) - s : Nat) : Int), .bool (decide ((((((a + b) / 2) + m) - s : Nat) : Int) < ((b : Nat) : Int)))] .nil (by kernel_rfl) (fun b198 => ?_)
                  refine OPS.nil ?_
                  refine thn_n ?_
                  exact ⟨decide ((((((a + b) / 2) + m) - s : Nat) : Int) < ((b : Nat) : Int)), trivial, Bp.of Bp.dec (by first | (simp only [h196, iff_false, false_iff, iff_true, true_iff, Classical.not_not, and_true, true_and, and_false, false_and, or_true, true_or, or_false, false_or, not_true_eq_false, not_false_eq_true, and_self, or_self, iff_self]; done) | (simp [h196]; done) | simp_all), by kernel_rfl, hp157⟩
                · refine OPS.batch 0 {} [] [3, 4, 16, 22, 167] [.int .i64 ((b : Nat) : Int), .pointer (some ⟨g3, 0, none⟩), .int .i64 (((a + b) / 2 : Nat) : Int), .int .i64 (((((a + b) / 2) + m) - s : Nat) : Int), .bool (decide ((((a + b) / 2 : Nat) : Int) < (((((a + b) / 2) + m) - s : Nat) : Int)))] .nil (by kernel_rfl) (fun b199 => ?_)
                  refine OPS.re [.int .i64 ((b : Nat) : Int), .pointer (some ⟨g3, 0, none⟩), .int .i64 (((a + b) / 2 : Nat) : Int), .int .i64 (((((a + b) / 2) + m) - s : Nat) : Int), .bool false] (by rw [show (decide ((((a + b) / 2 : Nat) : Int) < (((((a + b) / 2) + m) - s : Nat) : Int))) = false from Bp.dec.ff h196]) ?_
                  refine OPS.batch 4 { wraps := [171] } [] [3, 4, 16, 22, 171] [.int .i64 ((b : Nat) : Int), .pointer (some ⟨g3, 0, none⟩), .int .i64 (((a + b) / 2 : Nat) : Int), .int .i64 (((((a + b) / 2) + m) - s : Nat) : Int), .bool false] .nil (by kernel_rfl) (fun b200 => ?_)
                  refine OPS.nil ?_
                  refine thn_n ?_
                  exact ⟨false, trivial, Bp.of Bp.f (by first | (simp only [h196, iff_false, false_iff, iff_true, true_iff, Classical.not_not, and_true, true_and, and_false, false_and, or_true, true_or, or_false, false_or, not_true_eq_false, not_false_eq_true, and_self, or_self, iff_self]; done) | (simp [h196]; done) | simp_all), by kernel_rfl, hp157⟩
              rintro e203 w204 ⟨x201, hd206, hb202, hE207, hp205⟩
              obtain ⟨b208, rfl⟩ := toMk hE207
              clear hE207
              clear hd206
              refine WP.test (p := ((((a + b) / 2 : Nat) : Int) < (((((a + b) / 2) + m) - s : Nat) : Int)) ∧ ((((((a + b) / 2) + m) - s : Nat) : Int) < ((b : Nat) : Int))) rfl hb202 (fun h209 => ?_) (fun h209 => ?_)
              · refine WP.region _ rfl (by kernel_rfl) ?_
                refine OPS.batch 4 {} [.agg #[.func (.func g) #[] #[c1, c2], .func (.func sf) #[] #[s1, s2]]] [172, 173, 174, 175] [.agg #[.func (.func g) #[] #[c1, c2], .func (.func sf) #[] #[s1, s2]], .int .i64 (((a + b) / 2 : Nat) : Int), .int .i64 (((((a + b) / 2) + m) - s : Nat) : Int), .int .i64 ((b : Nat) : Int)] (.cons (show Ld Try.prog w204 164 ⟨g3, 0, none⟩ (.agg #[.func (.func g) #[] #[c1, c2], .func (.func sf) #[] #[s1, s2]]) from Ld.rowN (cs := [.func (.func g) #[] #[c1, c2], .func (.func sf) #[] #[s1, s2]]) hp205.get1 (by kernel_rfl)) .nil) (by kernel_rfl) (fun b210 => ?_)
                have hp213 := hp205.pull0
                refine OPS.cons (opStep.call (some 176) [.agg #[.func (.func g) #[] #[c1, c2], .func (.func sf) #[] #[s1, s2]], .int .i64 (((a + b) / 2 : Nat) : Int), .int .i64 (((((a + b) / 2) + m) - s : Nat) : Int), .int .i64 ((b : Nat) : Int)] (by kernel_rfl) (ih (b - ((a + b) / 2)) (by omega) _ (hless.app _) (hswap.app _) ((a + b) / 2) ((a + b) / 2 + m - s) b q144 _ rfl (by omega) (by omega) (by omega) (show List.Perm q144 l0 from by first | assumption | exact hql | exact hq145.1.trans hp) (mid_rot hcm hmid hu1 hu2 hx hq145.2).u3 (mid_rot hcm hmid hu1 hu2 hx hq145.2).u4 (mid_rot hcm hmid hu1 hu2 hx hq145.2).x2 hp213) ?_)
                rintro _ w214 ⟨rfl, q216, hq217, hp215⟩
                refine ⟨_, rfl, ?_⟩
                refine OPS.nil ?_
                refine bodyQ.ofN ?_
                refine bodyQ.of _ rfl [] trivial ?_
                have hm2 := mid_rot hcm hmid hu1 hu2 hx hq145.2
                have hmr := rot_mv (l := l) (a := a) (b := b) (s := s) (m := m) (e := ((a + b) / 2 + m - s)) hq145.1 hq145.2 (by omega)
                have hrl := hmr.len
                have hfin := mid_up (by omega) (by omega) hm2.all (Mv.refl _ _ _) (skip_up hm2.u1 hm2.u2 (by omega) (by omega)) hq217.1 hq217.2
                exact ⟨rfl, _, ⟨hmr.trans hfin.2, hfin.1⟩, (hp215.sub (.cons_cons _ (.cons _ (.refl _))))⟩
              · refine WP.skip ?_
                refine bodyQ.ofN ?_
                refine bodyQ.of _ rfl [] trivial ?_
                have hm2 := mid_rot hcm hmid hu1 hu2 hx hq145.2
                have hmr := rot_mv (l := l) (a := a) (b := b) (s := s) (m := m) (e := ((a + b) / 2 + m - s)) hq145.1 hq145.2 (by omega)
                have hrl := hmr.len
                have hfin := mid_up (by omega) (by omega) hm2.all (Mv.refl _ _ _) (skip_up hm2.u1 hm2.u2 (by omega) (by omega)) (Mv.refl _ _ _) (skip_up hm2.u3 hm2.u4 (by omega) (by omega))
                exact ⟨rfl, _, ⟨hmr.trans hfin.2, hfin.1⟩, (hp205.sub (.cons_cons _ (.cons _ (.refl _))))⟩
          · refine WP.skip ?_
            refine thn_n ?_
            refine WP.seq ?_
            refine WP.cut (fun e227 w228 => ∃ (x225 : Bool), (True) ∧ Bp x225 ((((a : Nat) : Int) < ((s : Nat) : Int)) ∧ (((s : Nat) : Int) < (((a + b) / 2 : Nat) : Int))) ∧ List.map e227 [1, 3, 4, 16, 18, 22, 158] = [.int .i64 ((a : Nat) : Int), .int .i64 ((b : Nat) : Int), .pointer (some ⟨g3, 0, none⟩), .int .i64 (((a + b) / 2 : Nat) : Int), .int .i64 ((s : Nat) : Int), .int .i64 (((((a + b) / 2) + m) - s : Nat) : Int), .bool x225] ∧ Hp w0 Non (Res.row g3 [.func (.func g) #[] #[c1, c2], .func (.func sf) #[] #[s1, s2]] 164 :: Res.own 3 1 (.slice sa sn sc) sn (List.flatMap (fun (y : Int) => [Go.Value.int .i64 y]) l) :: L) w228) ?_ ?_
            · refine WP.region _ rfl (by kernel_rfl) ?_
              refine OPS.batch 4 {} [] [1, 3, 4, 16, 18, 22, 154] [.int .i64 ((a : Nat) : Int), .int .i64 ((b : Nat) : Int), .pointer (some ⟨g3, 0, none⟩), .int .i64 (((a + b) / 2 : Nat) : Int), .int .i64 ((s : Nat) : Int), .int .i64 (((((a + b) / 2) + m) - s : Nat) : Int), .bool (decide (((a : Nat) : Int) < ((s : Nat) : Int)))] .nil (by kernel_rfl) (fun b219 => ?_)
              by_cases h220 : ((a : Nat) : Int) < ((s : Nat) : Int)
              · refine OPS.batch 0 {} [] [1, 3, 4, 16, 18, 22, 154] [.int .i64 ((a : Nat) : Int), .int .i64 ((b : Nat) : Int), .pointer (some ⟨g3, 0, none⟩), .int .i64 (((a + b) / 2 : Nat) : Int), .int .i64 ((s : Nat) : Int), .int .i64 (((((a + b) / 2) + m) - s : Nat) : Int), .bool (decide (((a : Nat) : Int) < ((s : Nat) : Int)))] .nil (by kernel_rfl) (fun b221 => ?_)
                refine OPS.re [.int .i64 ((a : Nat) : Int), .int .i64 ((b : Nat) : Int), .pointer (some ⟨g3, 0, none⟩), .int .i64 (((a + b) / 2 : Nat) : Int), .int .i64 ((s : Nat) : Int), .int .i64 (((((a + b) / 2) + m) - s : Nat) : Int), .bool true] (by rw [show (decide (((a : Nat) : Int) < ((s : Nat) : Int))) = true from Bp.dec.tt h220]) ?_
                refine OPS.batch 4 { wraps := [158] } [] [1, 3, 4, 16, 18, 22, 158] [.int .i64 ((a : Nat) : Int), .int .i64 ((b : Nat) : Int), .pointer (some ⟨g3, 0, none⟩), .int .i64 (((a + b) / 2 : Nat) : Int), .int .i64 ((s : Nat) : Int), .int .i64 (((((a + b) / 2) + m) - s : Nat) : Int), .bool (decide (((s : Nat) : Int) < (((a + b) / 2 : Nat) : Int)))] .nil (by kernel_rfl) (fun b222 => ?_)
                refine OPS.nil ?_
                refine thn_n ?_
                exact ⟨decide (((s : Nat) : Int) < (((a + b) / 2 : Nat) : Int)), trivial, Bp.of Bp.dec (by first | (simp only [h220, iff_false, false_iff, iff_true, true_iff, Classical.not_not, and_true, true_and, and_false, false_and, or_true, true_or, or_false, false_or, not_true_eq_false, not_false_eq_true, and_self, or_self, iff_self]; done) | (simp [h220]; done) | simp_all), by kernel_rfl, hp133⟩
              · refine OPS.batch 0 {} [] [1, 3, 4, 16, 18, 22, 154] [.int .i64 ((a : Nat) : Int), .int .i64 ((b : Nat) : Int), .pointer (some ⟨g3, 0, none⟩), .int .i64 (((a + b) / 2 : Nat) : Int), .int .i64 ((s : Nat) : Int), .int .i64 (((((a + b) / 2) + m) - s : Nat) : Int), .bool (decide (((a : Nat) : Int) < ((s : Nat) : Int)))] .nil (by kernel_rfl) (fun b223 => ?_)
                refine OPS.re [.int .i64 ((a : Nat) : Int), .int .i64 ((b : Nat) : Int), .pointer (some ⟨g3, 0, none⟩), .int .i64 (((a + b) / 2 : Nat) : Int), .int .i64 ((s : Nat) : Int), .int .i64 (((((a + b) / 2) + m) - s : Nat) : Int), .bool false] (by rw [show (decide (((a : Nat) : Int) < ((s : Nat) : Int))) = false from Bp.dec.ff h220]) ?_
                refine OPS.batch 4 { wraps := [158] } [] [1, 3, 4, 16, 18, 22, 158] [.int .i64 ((a : Nat) : Int), .int .i64 ((b : Nat) : Int), .pointer (some ⟨g3, 0, none⟩), .int .i64 (((a + b) / 2 : Nat) : Int), .int .i64 ((s : Nat) : Int), .int .i64 (((((a + b) / 2) + m) - s : Nat) : Int), .bool false] .nil (by kernel_rfl) (fun b224 => ?_)
                refine OPS.nil ?_
                refine thn_n ?_
                exact ⟨false, trivial, Bp.of Bp.f (by first | (simp only [h220, iff_false, false_iff, iff_true, true_iff, Classical.not_not, and_true, true_and, and_false, false_and, or_true, true_or, or_false, false_or, not_true_eq_false, not_false_eq_true, and_self, or_self, iff_self]; done) | (simp [h220]; done) | simp_all), by kernel_rfl, hp133⟩
            rintro e227 w228 ⟨x225, hd230, hb226, hE231, hp229⟩
            obtain ⟨b232, rfl⟩ := toMk hE231
            clear hE231
            clear hd230
            refine WP.test (p := (((a : Nat) : Int) < ((s : Nat) : Int)) ∧ (((s : Nat) : Int) < (((a + b) / 2 : Nat) : Int))) rfl hb226 (fun h233 => ?_) (fun h233 => ?_)
            · refine WP.region _ rfl (by kernel_rfl) ?_
              refine OPS.batch 4 {} [.agg #[.func (.func g) #[] #[c1, c2], .func (.func sf) #[] #[s1, s2]]] [3, 4, 16, 22, 159, 160, 161, 162] [.int .i64 ((b : Nat) : Int), .pointer (some ⟨g3, 0, none⟩), .int .i64 (((a + b) / 2 : Nat) : Int), .int .i64 (((((a + b) / 2) + m) - s : Nat) : Int), .agg #[.func (.func g) #[] #[c1, c2], .func (.func sf) #[] #[s1, s2]], .int .i64 ((a : Nat) : Int), .int .i64 ((s : Nat) : Int), .int .i64 (((a + b) / 2 : Nat) : Int)] (.cons (show Ld Try.prog w228 164 ⟨g3, 0, none⟩ (.agg #[.func (.func g) #[] #[c1, c2], .func (.func sf) #[] #[s1, s2]]) from Ld.rowN (cs := [.func (.func g) #[] #[c1, c2], .func (.func sf) #[] #[s1, s2]]) hp229.get0 (by kernel_rfl)) .nil) (by kernel_rfl) (fun b234 => ?_)
              have hp237 := hp229.pull1
              refine OPS.cons (opStep.call (some 163) [.agg #[.func (.func g) #[] #[c1, c2], .func (.func sf) #[] #[s1, s2]], .int .i64 ((a : Nat) : Int), .int .i64 ((s : Nat) : Int), .int .i64 (((a + b) / 2 : Nat) : Int)] (by kernel_rfl) (ih (((a + b) / 2) - a) (by omega) _ (hless.app _) (hswap.app _) a s ((a + b) / 2) l _ rfl (by omega) (by omega) (by omega) (show List.Perm l l0 from by first | assumption | exact hql) (mid_rot hcm hmid hu1 hu2 hx (rot_none (by omega) (by omega) (by omega))).u1 (mid_rot hcm hmid hu1 hu2 hx (rot_none (by omega) (by omega) (by omega))).u2 (mid_rot hcm hmid hu1 hu2 hx (rot_none (by omega) (by omega) (by omega))).x1 hp237) ?_)
              rintro _ w238 ⟨rfl, q240, hq241, hp239⟩
              refine ⟨_, rfl, ?_⟩
              refine OPS.nil ?_
              refine thn_n ?_
              refine WP.cut (fun e251 w252 => ∃ (x249 : Bool), (True) ∧ Bp x249 (((((a + b) / 2 : Nat) : Int) < (((((a + b) / 2) + m) - s : Nat) : Int)) ∧ ((((((a + b) / 2) + m) - s : Nat) : Int) < ((b : Nat) : Int))) ∧ List.map e251 [3, 4, 16, 22, 171] = [.int .i64 ((b : Nat) : Int), .pointer (some ⟨g3, 0, none⟩), .int .i64 (((a + b) / 2 : Nat) : Int), .int .i64 (((((a + b) / 2) + m) - s : Nat) : Int), .bool x249] ∧ Hp w0 Non (Res.own 3 1 (.slice sa sn sc) sn (List.flatMap (fun (y : Int) => [Go.Value.int .i64 y]) q240) :: Res.row g3 [.func (.func g) #[] #[c1, c2], .func (.func sf) #[] #[s1, s2]] 164 :: L) w252) ?_ ?_
              · refine WP.region _ rfl (by kernel_rfl) ?_
                refine OPS.batch 4 {} [] [3, 4, 16, 22, 167] [.int .i64 ((b : Nat) : Int), .pointer (some ⟨g3, 0, none⟩), .int .i64 (((a + b) / 2 : Nat) : Int), .int .i64 (((((a + b) / 2) + m) - s : Nat) : Int), .bool (decide ((((a + b) / 2 : Nat) : Int) < (((((a + b) / 2) + m) - s : Nat) : Int)))] .nil (by kernel_rfl) (fun b243 => ?_)
                by_cases h244 : (((a + b) / 2 : Nat) : Int) < (((((a + b) / 2) + m) - s : Nat) : Int)
                · refine OPS.batch 0 {} [] [3, 4, 16, 22, 167] [.int .i64 ((b : Nat) : Int), .pointer (some ⟨g3, 0, none⟩), .int .i64 (((a + b) / 2 : Nat) : Int), .int .i64 (((((a + b) / 2) + m) - s : Nat) : Int), .bool (decide ((((a + b) / 2 : Nat) : Int) < (((((a + b) / 2) + m) - s : Nat) : Int)))] .nil (by kernel_rfl) (fun b245 => ?_)
                  refine OPS.re [.int .i64 ((b : Nat) : Int), .pointer (some ⟨g3, 0, none⟩), .int .i64 (((a + b) / 2 : Nat) : Int), .int .i64 (((((a + b) / 2) + m) - s : Nat) : Int), .bool true] (by rw [show (decide ((((a + b) / 2 : Nat) : Int) < (((((a + b) / 2) + m) - s : Nat) : Int))) = true from Bp.dec.tt h244]) ?_
                  refine OPS.batch 4 { wraps := [171] } [] [3, 4, 16, 22, 171] [.int .i64 ((b : Nat) : Int), .pointer (some ⟨g3, 0, none⟩), .int .i64 (((a + b) / 2 : Nat) : Int), .int .i64 (((((a + b) / 2) + m) - s : Nat) : Int), .bool (decide ((((((a + b) / 2) + m) - s : Nat) : Int) < ((b : Nat) : Int)))] .nil (by kernel_rfl) (fun b246 => ?_)
                  refine OPS.nil ?_
                  refine thn_n ?_
                  exact ⟨decide ((((((a + b) / 2) + m) - s : Nat) : Int) < ((b : Nat) : Int)), trivial, Bp.of Bp.dec (by first | (simp only [h244, iff_false, false_iff, iff_true, true_iff, Classical.not_not, and_true, true_and, and_false, false_and, or_true, true_or, or_false, false_or, not_true_eq_false, not_false_eq_true, and_self, or_self, iff_self]; done) | (simp [h244]; done) | simp_all), by kernel_rfl, hp239⟩
                · refine OPS.batch 0 {} [] [3, 4, 16, 22, 167] [.int .i64 ((b : Nat) : Int), .pointer (some ⟨g3, 0, none⟩), .int .i64 (((a + b) / 2 : Nat) : Int), .int .i64 (((((a + b) / 2) + m) - s : Nat) : Int), .bool (decide ((((a + b) / 2 : Nat) : Int) < (((((a + b) / 2) + m) - s : Nat) : Int)))] .nil (by kernel_rfl) (fun b247 => ?_)
                  refine OPS.re [.int .i64 ((b : Nat) : Int), .pointer (some ⟨g3, 0, none⟩), .int .i64 (((a + b) / 2 : Nat) : Int), .int .i64 (((((a + b) / 2) + m) - s : Nat) : Int), .bool false] (by rw [show (decide ((((a + b) / 2 : Nat) : Int) < (((((a + b) / 2) + m) - s : Nat) : Int))) = false from Bp.dec.ff h244]) ?_
                  refine OPS.batch 4 { wraps := [171] } [] [3, 4, 16, 22, 171] [.int .i64 ((b : Nat) : Int), .pointer (some ⟨g3, 0, none⟩), .int .i64 (((a + b) / 2 : Nat) : Int), .int .i64 (((((a + b) / 2) + m) - s : Nat) : Int), .bool false] .nil (by kernel_rfl) (fun b248 => ?_)
                  refine OPS.nil ?_
                  refine thn_n ?_
                  exact ⟨false, trivial, Bp.of Bp.f (by first | (simp only [h244, iff_false, false_iff, iff_true, true_iff, Classical.not_not, and_true, true_and, and_false, false_and, or_true, true_or, or_false, false_or, not_true_eq_false, not_false_eq_true, and_self, or_self, iff_self]; done) | (simp [h244]; done) | simp_all), by kernel_rfl, hp239⟩
              rintro e251 w252 ⟨x249, hd254, hb250, hE255, hp253⟩
              obtain ⟨b256, rfl⟩ := toMk hE255
              clear hE255
              clear hd254
              refine WP.test (p := ((((a + b) / 2 : Nat) : Int) < (((((a + b) / 2) + m) - s : Nat) : Int)) ∧ ((((((a + b) / 2) + m) - s : Nat) : Int) < ((b : Nat) : Int))) rfl hb250 (fun h257 => ?_) (fun h257 => ?_)
              · refine WP.region _ rfl (by kernel_rfl) ?_
                refine OPS.batch 4 {} [.agg #[.func (.func g) #[] #[c1, c2], .func (.func sf) #[] #[s1, s2]]] [172, 173, 174, 175] [.agg #[.func (.func g) #[] #[c1, c2], .func (.func sf) #[] #[s1, s2]], .int .i64 (((a + b) / 2 : Nat) : Int), .int .i64 (((((a + b) / 2) + m) - s : Nat) : Int), .int .i64 ((b : Nat) : Int)] (.cons (show Ld Try.prog w252 164 ⟨g3, 0, none⟩ (.agg #[.func (.func g) #[] #[c1, c2], .func (.func sf) #[] #[s1, s2]]) from Ld.rowN (cs := [.func (.func g) #[] #[c1, c2], .func (.func sf) #[] #[s1, s2]]) hp253.get1 (by kernel_rfl)) .nil) (by kernel_rfl) (fun b258 => ?_)
                have hp261 := hp253.pull0
                refine OPS.cons (opStep.call (some 176) [.agg #[.func (.func g) #[] #[c1, c2], .func (.func sf) #[] #[s1, s2]], .int .i64 (((a + b) / 2 : Nat) : Int), .int .i64 (((((a + b) / 2) + m) - s : Nat) : Int), .int .i64 ((b : Nat) : Int)] (by kernel_rfl) (ih (b - ((a + b) / 2)) (by omega) _ (hless.app _) (hswap.app _) ((a + b) / 2) ((a + b) / 2 + m - s) b q240 _ rfl (by omega) (by omega) (by omega) (show List.Perm q240 l0 from by first | assumption | exact hql | exact hq241.1.perm.trans hp) ((mid_rot hcm hmid hu1 hu2 hx (rot_none (by omega) (by omega) (by omega))).u3.mv hq241.1 (by omega)) ((mid_rot hcm hmid hu1 hu2 hx (rot_none (by omega) (by omega) (by omega))).u4.mv hq241.1 (by omega)) ((mid_rot hcm hmid hu1 hu2 hx (rot_none (by omega) (by omega) (by omega))).x2.mv hq241.1) hp261) ?_)
                rintro _ w262 ⟨rfl, q264, hq265, hp263⟩
                refine ⟨_, rfl, ?_⟩
                refine OPS.nil ?_
                refine bodyQ.ofN ?_
                refine bodyQ.of _ rfl [] trivial ?_
                have hm2 := mid_rot hcm hmid hu1 hu2 hx (rot_none (by omega) (by omega) (by omega))
                have hmr := rot_mv (l := l) (a := a) (b := b) (s := s) (m := m) (e := ((a + b) / 2 + m - s)) (List.Perm.refl _) (rot_none (by omega) (by omega) (by omega)) (by omega)
                have hrl := hmr.len
                have hfin := mid_up (by omega) (by omega) hm2.all hq241.1 hq241.2 hq265.1 hq265.2
                exact ⟨rfl, _, ⟨hmr.trans hfin.2, hfin.1⟩, (hp263.sub (.cons_cons _ (.cons _ (.refl _))))⟩
              · refine WP.skip ?_
                refine bodyQ.ofN ?_
                refine bodyQ.of _ rfl [] trivial ?_
                have hm2 := mid_rot hcm hmid hu1 hu2 hx (rot_none (by omega) (by omega) (by omega))
                have hmr := rot_mv (l := l) (a := a) (b := b) (s := s) (m := m) (e := ((a + b) / 2 + m - s)) (List.Perm.refl _) (rot_none (by omega) (by omega) (by omega)) (by omega)
                have hrl := hmr.len
                have hfin := mid_up (by omega) (by omega) hm2.all hq241.1 hq241.2 (Mv.refl _ _ _) ((skip_up hm2.u3 hm2.u4 (by omega) (by omega)).mv hq241.1 (by omega))
                exact ⟨rfl, _, ⟨hmr.trans hfin.2, hfin.1⟩, (hp253.sub (.cons_cons _ (.cons _ (.refl _))))⟩
            · refine WP.skip ?_
              refine thn_n ?_
              refine WP.cut (fun e275 w276 => ∃ (x273 : Bool), (True) ∧ Bp x273 (((((a + b) / 2 : Nat) : Int) < (((((a + b) / 2) + m) - s : Nat) : Int)) ∧ ((((((a + b) / 2) + m) - s : Nat) : Int) < ((b : Nat) : Int))) ∧ List.map e275 [3, 4, 16, 22, 171] = [.int .i64 ((b : Nat) : Int), .pointer (some ⟨g3, 0, none⟩), .int .i64 (((a + b) / 2 : Nat) : Int), .int .i64 (((((a + b) / 2) + m) - s : Nat) : Int), .bool x273] ∧ Hp w0 Non (Res.row g3 [.func (.func g) #[] #[c1, c2], .func (.func sf) #[] #[s1, s2]] 164 :: Res.own 3 1 (.slice sa sn sc) sn (List.flatMap (fun (y : Int) => [Go.Value.int .i64 y]) l) :: L) w276) ?_ ?_
              · refine WP.region _ rfl (by kernel_rfl) ?_
                refine OPS.batch 4 {} [] [3, 4, 16, 22, 167] [.int .i64 ((b : Nat) : Int), .pointer (some ⟨g3, 0, none⟩), .int .i64 (((a + b) / 2 : Nat) : Int), .int .i64 (((((a + b) / 2) + m) - s : Nat) : Int), .bool (decide ((((a + b) / 2 : Nat) : Int) < (((((a + b) / 2) + m) - s : Nat) : Int)))] .nil (by kernel_rfl) (fun b267 => ?_)
                by_cases h268 : (((a + b) / 2 : Nat) : Int) < (((((a + b) / 2) + m) - s : Nat) : Int)
                · refine OPS.batch 0 {} [] [3, 4, 16, 22, 167] [.int .i64 ((b : Nat) : Int), .pointer (some ⟨g3, 0, none⟩), .int .i64 (((a + b) / 2 : Nat) : Int), .int .i64 (((((a + b) / 2) + m) - s : Nat) : Int), .bool (decide ((((a + b) / 2 : Nat) : Int) < (((((a + b) / 2) + m) - s : Nat) : Int)))] .nil (by kernel_rfl) (fun b269 => ?_)
                  refine OPS.re [.int .i64 ((b : Nat) : Int), .pointer (some ⟨g3, 0, none⟩), .int .i64 (((a + b) / 2 : Nat) : Int), .int .i64 (((((a + b) / 2) + m) - s : Nat) : Int), .bool true] (by rw [show (decide ((((a + b) / 2 : Nat) : Int) < (((((a + b) / 2) + m) - s : Nat) : Int))) = true from Bp.dec.tt h268]) ?_
                  refine OPS.batch 4 { wraps := [171] } [] [3, 4, 16, 22, 171] [.int .i64 ((b : Nat) : Int), .pointer (some ⟨g3, 0, none⟩), .int .i64 (((a + b) / 2 : Nat) : Int), .int .i64 (((((a + b) / 2) + m) - s : Nat) : Int), .bool (decide ((((((a + b) / 2) + m) - s : Nat) : Int) < ((b : Nat) : Int)))] .nil (by kernel_rfl) (fun b270 => ?_)
                  refine OPS.nil ?_
                  refine thn_n ?_
                  exact ⟨decide ((((((a + b) / 2) + m) - s : Nat) : Int) < ((b : Nat) : Int)), trivial, Bp.of Bp.dec (by first | (simp only [h268, iff_false, false_iff, iff_true, true_iff, Classical.not_not, and_true, true_and, and_false, false_and, or_true, true_or, or_false, false_or, not_true_eq_false, not_false_eq_true, and_self, or_self, iff_self]; done) | (simp [h268]; done) | simp_all), by kernel_rfl, hp229⟩
                · refine OPS.batch 0 {} [] [3, 4, 16, 22, 167] [.int .i64 ((b : Nat) : Int), .pointer (some ⟨g3, 0, none⟩), .int .i64 (((a + b) / 2 : Nat) : Int), .int .i64 (((((a + b) / 2) + m) - s : Nat) : Int), .bool (decide ((((a + b) / 2 : Nat) : Int) < (((((a + b) / 2) + m) - s : Nat) : Int)))] .nil (by kernel_rfl) (fun b271 => ?_)
                  refine OPS.re [.int .i64 ((b : Nat) : Int), .pointer (some ⟨g3, 0, none⟩), .int .i64 (((a + b) / 2 : Nat) : Int), .int .i64 (((((a + b) / 2) + m) - s : Nat) : Int), .bool false] (by rw [show (decide ((((a + b) / 2 : Nat) : Int) < (((((a + b) / 2) + m) - s : Nat) : Int))) = false from Bp.dec.ff h268]) ?_
                  refine OPS.batch 4 { wraps := [171] } [] [3, 4, 16, 22, 171] [.int .i64 ((b : Nat) : Int), .pointer (some ⟨g3, 0, none⟩), .int .i64 (((a + b) / 2 : Nat) : Int), .int .i64 (((((a + b) / 2) + m) - s : Nat) : Int), .bool false] .nil (by kernel_rfl) (fun b272 => ?_)
                  refine OPS.nil ?_
                  refine thn_n ?_
                  exact ⟨false, trivial, Bp.of Bp.f (by first | (simp only [h268, iff_false, false_iff, iff_true, true_iff, Classical.not_not, and_true, true_and, and_false, false_and, or_true, true_or, or_false, false_or, not_true_eq_false, not_false_eq_true, and_self, or_self, iff_self]; done) | (simp [h268]; done) | simp_all), by kernel_rfl, hp229⟩
              rintro e275 w276 ⟨x273, hd278, hb274, hE279, hp277⟩
              obtain ⟨b280, rfl⟩ := toMk hE279
              clear hE279
              clear hd278
              refine WP.test (p := ((((a + b) / 2 : Nat) : Int) < (((((a + b) / 2) + m) - s : Nat) : Int)) ∧ ((((((a + b) / 2) + m) - s : Nat) : Int) < ((b : Nat) : Int))) rfl hb274 (fun h281 => ?_) (fun h281 => ?_)
              · refine WP.region _ rfl (by kernel_rfl) ?_
                refine OPS.batch 4 {} [.agg #[.func (.func g) #[] #[c1, c2], .func (.func sf) #[] #[s1, s2]]] [172, 173, 174, 175] [.agg #[.func (.func g) #[] #[c1, c2], .func (.func sf) #[] #[s1, s2]], .int .i64 (((a + b) / 2 : Nat) : Int), .int .i64 (((((a + b) / 2) + m) - s : Nat) : Int), .int .i64 ((b : Nat) : Int)] (.cons (show Ld Try.prog w276 164 ⟨g3, 0, none⟩ (.agg #[.func (.func g) #[] #[c1, c2], .func (.func sf) #[] #[s1, s2]]) from Ld.rowN (cs := [.func (.func g) #[] #[c1, c2], .func (.func sf) #[] #[s1, s2]]) hp277.get0 (by kernel_rfl)) .nil) (by kernel_rfl) (fun b282 => ?_)
                have hp285 := hp277.pull1
                refine OPS.cons (opStep.call (some 176) [.agg #[.func (.func g) #[] #[c1, c2], .func (.func sf) #[] #[s1, s2]], .int .i64 (((a + b) / 2 : Nat) : Int), .int .i64 (((((a + b) / 2) + m) - s : Nat) : Int), .int .i64 ((b : Nat) : Int)] (by kernel_rfl) (ih (b - ((a + b) / 2)) (by omega) _ (hless.app _) (hswap.app _) ((a + b) / 2) ((a + b) / 2 + m - s) b l _ rfl (by omega) (by omega) (by omega) (show List.Perm l l0 from by first | assumption | exact hql) (mid_rot hcm hmid hu1 hu2 hx (rot_none (by omega) (by omega) (by omega))).u3 (mid_rot hcm hmid hu1 hu2 hx (rot_none (by omega) (by omega) (by omega))).u4 (mid_rot hcm hmid hu1 hu2 hx (rot_none (by omega) (by omega) (by omega))).x2 hp285) ?_)
                rintro _ w286 ⟨rfl, q288, hq289, hp287⟩
                refine ⟨_, rfl, ?_⟩
                refine OPS.nil ?_
                refine bodyQ.ofN ?_
                refine bodyQ.of _ rfl [] trivial ?_
                have hm2 := mid_rot hcm hmid hu1 hu2 hx (rot_none (by omega) (by omega) (by omega))
                have hmr := rot_mv (l := l) (a := a) (b := b) (s := s) (m := m) (e := ((a + b) / 2 + m - s)) (List.Perm.refl _) (rot_none (by omega) (by omega) (by omega)) (by omega)
                have hrl := hmr.len
                have hfin := mid_up (by omega) (by omega) hm2.all (Mv.refl _ _ _) (skip_up hm2.u1 hm2.u2 (by omega) (by omega)) hq289.1 hq289.2
                exact ⟨rfl, _, ⟨hmr.trans hfin.2, hfin.1⟩, (hp287.sub (.cons_cons _ (.cons _ (.refl _))))⟩
              · refine WP.skip ?_
                refine bodyQ.ofN ?_
                refine bodyQ.of _ rfl [] trivial ?_
                have hm2 := mid_rot hcm hmid hu1 hu2 hx (rot_none (by omega) (by omega) (by omega))
                have hmr := rot_mv (l := l) (a := a) (b := b) (s := s) (m := m) (e := ((a + b) / 2 + m - s)) (List.Perm.refl _) (rot_none (by omega) (by omega) (by omega)) (by omega)
                have hrl := hmr.len
                have hfin := mid_up (by omega) (by omega) hm2.all (Mv.refl _ _ _) (skip_up hm2.u1 hm2.u2 (by omega) (by omega)) (Mv.refl _ _ _) (skip_up hm2.u3 hm2.u4 (by omega) (by omega))
                exact ⟨rfl, _, ⟨hmr.trans hfin.2, hfin.1⟩, (hp277.sub (.cons _ (.cons_cons _ (.refl _))))⟩
      · refine WP.seq ?_
        refine WP.pure {} [] [1, 2, 3, 4, 16, 17, 18] [.int .i64 ((a : Nat) : Int), .int .i64 ((m : Nat) : Int), .int .i64 ((b : Nat) : Int), .pointer (some ⟨g3, 0, none⟩), .int .i64 (((a + b) / 2 : Nat) : Int), .int .i64 ((((a + b) / 2) + m : Nat) : Int), .int .i64 ((a : Nat) : Int)] .nil (by kernel_rfl) (fun b290 => ?_)
        refine thn_n ?_
        refine WP.pure {} [] [1, 2, 3, 4, 16, 17, 18, 19] [.int .i64 ((a : Nat) : Int), .int .i64 ((m : Nat) : Int), .int .i64 ((b : Nat) : Int), .pointer (some ⟨g3, 0, none⟩), .int .i64 (((a + b) / 2 : Nat) : Int), .int .i64 ((((a + b) / 2) + m : Nat) : Int), .int .i64 ((a : Nat) : Int), .int .i64 ((m : Nat) : Int)] .nil (by kernel_rfl) (fun b291 => ?_)
        refine thn_n ?_
        refine WP.seq ?_
        refine WP.pure { subs := [114] } [.int .i64 (((((a + b) / 2) + m) - 1 : Nat) : Int)] [1, 2, 3, 4, 16, 17, 18, 19, 20] [.int .i64 ((a : Nat) : Int), .int .i64 ((m : Nat) : Int), .int .i64 ((b : Nat) : Int), .pointer (some ⟨g3, 0, none⟩), .int .i64 (((a + b) / 2 : Nat) : Int), .int .i64 ((((a + b) / 2) + m : Nat) : Int), .int .i64 ((a : Nat) : Int), .int .i64 ((m : Nat) : Int), .int .i64 (((((a + b) / 2) + m) - 1 : Nat) : Int)] (.cons (show Rng .i64 (((((a + b) / 2) + m : Nat) : Int) - 1) from Rng.i64 (by omega)) (.cons (show (.int .i64 (((((a + b) / 2) + m : Nat) : Int) - 1) : Go.Value) = .int .i64 (((((a + b) / 2) + m) - 1 : Nat) : Int) from congrArg (Value.int .i64) ((show ((((a + b) / 2) + m : Nat) : Int) - 1 = (((((a + b) / 2) + m) - 1 : Nat) : Int) by omega))) .nil)) (by kernel_rfl) (fun b292 => ?_)
        refine thn_n ?_
        refine WP.seq ?_
        refine WP.block ?_
        refine WP.loop (fun mz_ e293 w294 => ∃ (s : Nat) (r : Nat), mz_ = r - s ∧ ((a ≤ s ∧ s ≤ r ∧ r ≤ m) ∧ Srh R l ((((a + b) / 2) + m) - 1) (a) s r (m)) ∧ List.map e293 [1, 2, 3, 4, 16, 17, 18, 19, 20] = [.int .i64 ((a : Nat) : Int), .int .i64 ((m : Nat) : Int), .int .i64 ((b : Nat) : Int), .pointer (some ⟨g3, 0, none⟩), .int .i64 (((a + b) / 2 : Nat) : Int), .int .i64 ((((a + b) / 2) + m : Nat) : Int), .int .i64 ((s : Nat) : Int), .int .i64 ((r : Nat) : Int), .int .i64 (((((a + b) / 2) + m) - 1 : Nat) : Int)] ∧ Hp w0 Non (Res.row g3 [.func (.func g) #[] #[c1, c2], .func (.func sf) #[] #[s1, s2]] 164 :: Res.own 3 1 (.slice sa sn sc) sn (List.flatMap (fun (y : Int) => [Go.Value.int .i64 y]) l) :: L) w294) ((m) - (a)) ⟨a, m, rfl, ⟨by omega, fun x e1 e2 => by omega, fun x e1 e2 => by omega⟩, by kernel_rfl, hp2⟩ ?_
        rintro _ e293 w294 ⟨s, r, rfl, hI296, hE297, hp295⟩
        obtain ⟨b298, rfl⟩ := toMk hE297
        clear hE297
        obtain ⟨pa, pb⟩ := hI296
        refine WP.seq ?_
        refine WP.seq ?_
        refine WP.pure {} [] [1, 2, 3, 4, 16, 17, 18, 19, 20, 117] [.int .i64 ((a : Nat) : Int), .int .i64 ((m : Nat) : Int), .int .i64 ((b : Nat) : Int), .pointer (some ⟨g3, 0, none⟩), .int .i64 (((a + b) / 2 : Nat) : Int), .int .i64 ((((a + b) / 2) + m : Nat) : Int), .int .i64 ((s : Nat) : Int), .int .i64 ((r : Nat) : Int), .int .i64 (((((a + b) / 2) + m) - 1 : Nat) : Int), .bool (decide (((s : Nat) : Int) < ((r : Nat) : Int)))] .nil (by kernel_rfl) (fun b299 => ?_)
        refine thn_n ?_
        refine WP.test (p := ((s : Nat) : Int) < ((r : Nat) : Int)) rfl Bp.dec (fun h300 => ?_) (fun h300 => ?_)
        · refine WP.skip ?_
          refine thn_n ?_
          refine WP.block ?_
          refine WP.seq ?_
          refine WP.pure { subs := [120, 122] } [.int .i64 ((s + r : Nat) : Int), .int .u64 (((s + r) / 2 : Nat) : Int)] [1, 2, 3, 4, 16, 17, 18, 19, 20, 21] [.int .i64 ((a : Nat) : Int), .int .i64 ((m : Nat) : Int), .int .i64 ((b : Nat) : Int), .pointer (some ⟨g3, 0, none⟩), .int .i64 (((a + b) / 2 : Nat) : Int), .int .i64 ((((a + b) / 2) + m : Nat) : Int), .int .i64 ((s : Nat) : Int), .int .i64 ((r : Nat) : Int), .int .i64 (((((a + b) / 2) + m) - 1 : Nat) : Int), .int .i64 (((s + r) / 2 : Nat) : Int)] (.cons (show Rng .i64 (((s : Nat) : Int) + ((r : Nat) : Int)) from Rng.i64 (by omega)) (.cons (show (.int .i64 (((s : Nat) : Int) + ((r : Nat) : Int)) : Go.Value) = .int .i64 ((s + r : Nat) : Int) from congrArg (Value.int .i64) ((show ((s : Nat) : Int) + ((r : Nat) : Int) = ((s + r : Nat) : Int) by omega))) (.cons (show Rng .u64 (((s + r : Nat) : Int)) from Rng.u64 (by omega)) (.cons (show (0 : Int) ≤ 1 from by omega) (.cons (show (.int .u64 (((s + r : Nat) : Int).fdiv (2 ^ (min (1 : Int).toNat IntKind.u64.bits))) : Go.Value) = .int .u64 (((s + r) / 2 : Nat) : Int) from congrArg (Value.int .u64) (half_shr (a := s + r))) (.cons (show Rng .i64 ((((s + r) / 2 : Nat) : Int)) from Rng.i64 (by omega)) .nil)))))) (by kernel_rfl) (fun b301 => ?_)
          refine thn_n ?_
          refine WP.seq ?_
          refine WP.region _ rfl (by kernel_rfl) ?_
          refine OPS.batch 6 { subs := [128] } [.func (.func g) #[] #[c1, c2], .int .i64 ((((((a + b) / 2) + m) - 1) - ((s + r) / 2) : Nat) : Int)] [1, 2, 3, 4, 16, 17, 18, 19, 20, 21, 125, 128, 129] [.int .i64 ((a : Nat) : Int), .int .i64 ((m : Nat) : Int), .int .i64 ((b : Nat) : Int), .pointer (some ⟨g3, 0, none⟩), .int .i64 (((a + b) / 2 : Nat) : Int), .int .i64 ((((a + b) / 2) + m : Nat) : Int), .int .i64 ((s : Nat) : Int), .int .i64 ((r : Nat) : Int), .int .i64 (((((a + b) / 2) + m) - 1 : Nat) : Int), .int .i64 (((s + r) / 2 : Nat) : Int), .func (.func g) #[] #[c1, c2], .int .i64 ((((((a + b) / 2) + m) - 1) - ((s + r) / 2) : Nat) : Int), .int .i64 (((s + r) / 2 : Nat) : Int)] (.cons (Ld.row1 (P := Try.prog) (t := 140) (o := 0) (v := .func (.func g) #[] #[c1, c2]) hp295.get0 (by kernel_rfl)) (.cons (show Rng .i64 ((((((a + b) / 2) + m) - 1 : Nat) : Int) - (((s + r) / 2 : Nat) : Int)) from Rng.i64 (by omega)) (.cons (show (.int .i64 ((((((a + b) / 2) + m) - 1 : Nat) : Int) - (((s + r) / 2 : Nat) : Int)) : Go.Value) = .int .i64 ((((((a + b) / 2) + m) - 1) - ((s + r) / 2) : Nat) : Int) from congrArg (Value.int .i64) ((show (((((a + b) / 2) + m) - 1 : Nat) : Int) - (((s + r) / 2 : Nat) : Int) = ((((((a + b) / 2) + m) - 1) - ((s + r) / 2) : Nat) : Int) by omega))) .nil))) (by kernel_rfl) (fun b302 => ?_)
          have hp305 := hp295.pull1
          refine OPS.cons (opStep.callE (some 130) [.int .i64 ((((((a + b) / 2) + m) - 1) - ((s + r) / 2) : Nat) : Int), .int .i64 (((s + r) / 2 : Nat) : Int), c1, c2] rfl hless.1 rfl (hless.2 l [Res.row g3 [.func (.func g) #[] #[c1, c2], .func (.func sf) #[] #[s1, s2]] 164] _ (((((a + b) / 2) + m) - 1) - ((s + r) / 2)) ((s + r) / 2) (show List.Perm l l0 from by first | assumption | exact hql) (by omega) (by omega) hp305) ?_)
          rintro _ w306 ⟨b309, rfl, hb310, hp307⟩
          refine ⟨_, rfl, ?_⟩
          have hp308 : Hp w0 Non (Res.own 3 1 (.slice sa sn sc) sn (List.flatMap (fun (y : Int) => [Go.Value.int .i64 y]) l) :: Res.row g3 [.func (.func g) #[] #[c1, c2], .func (.func sf) #[] #[s1, s2]] 164 :: L) w306 := hp307
          refine OPS.batch 1 {} [] [1, 2, 3, 4, 16, 17, 18, 19, 20, 21, 131] [.int .i64 ((a : Nat) : Int), .int .i64 ((m : Nat) : Int), .int .i64 ((b : Nat) : Int), .pointer (some ⟨g3, 0, none⟩), .int .i64 (((a + b) / 2 : Nat) : Int), .int .i64 ((((a + b) / 2) + m : Nat) : Int), .int .i64 ((s : Nat) : Int), .int .i64 ((r : Nat) : Int), .int .i64 (((((a + b) / 2) + m) - 1 : Nat) : Int), .int .i64 (((s + r) / 2 : Nat) : Int), .bool (!b309)] .nil (by kernel_rfl) (fun b311 => ?_)
          refine OPS.nil ?_
          refine thn_n ?_
          refine WP.test (p := ¬ (lt l[((((a + b) / 2) + m) - 1) - ((s + r) / 2)]! l[(s + r) / 2]!)) rfl (Bp.not hb310) (fun h312 => ?_) (fun h312 => ?_)
          · refine WP.pure { subs := [133] } [.int .i64 ((((s + r) / 2) + 1 : Nat) : Int)] [1, 2, 3, 4, 16, 17, 18, 19, 20] [.int .i64 ((a : Nat) : Int), .int .i64 ((m : Nat) : Int), .int .i64 ((b : Nat) : Int), .pointer (some ⟨g3, 0, none⟩), .int .i64 (((a + b) / 2 : Nat) : Int), .int .i64 ((((a + b) / 2) + m : Nat) : Int), .int .i64 ((((s + r) / 2) + 1 : Nat) : Int), .int .i64 ((r : Nat) : Int), .int .i64 (((((a + b) / 2) + m) - 1 : Nat) : Int)] (.cons (show Rng .i64 ((((s + r) / 2 : Nat) : Int) + 1) from Rng.i64 (by omega)) (.cons (show (.int .i64 ((((s + r) / 2 : Nat) : Int) + 1) : Go.Value) = .int .i64 ((((s + r) / 2) + 1 : Nat) : Int) from congrArg (Value.int .i64) ((show (((s + r) / 2 : Nat) : Int) + 1 = ((((s + r) / 2) + 1 : Nat) : Int) by omega))) .nil)) (by kernel_rfl) (fun b313 => ?_)
            refine blk_n ?_
            refine thn_n ?_
            exact ⟨(r) - (((s + (r)) / 2) + 1), (by omega), ((s + r) / 2) + 1, r, rfl, ⟨by omega, srh_no hcm hp (by omega) hu1 hu2 hx pb (by omega) (by omega) (by omega) (by omega) (by omega) (by omega) (by omega) (by omega) h312⟩, by kernel_rfl, (((hp308.pull0).pull1).sub (.cons_cons _ (.cons_cons _ (.refl _))))⟩
          · replace h312 := Classical.not_not.1 h312
            refine WP.pure {} [] [1, 2, 3, 4, 16, 17, 18, 19, 20] [.int .i64 ((a : Nat) : Int), .int .i64 ((m : Nat) : Int), .int .i64 ((b : Nat) : Int), .pointer (some ⟨g3, 0, none⟩), .int .i64 (((a + b) / 2 : Nat) : Int), .int .i64 ((((a + b) / 2) + m : Nat) : Int), .int .i64 ((s : Nat) : Int), .int .i64 (((s + r) / 2 : Nat) : Int), .int .i64 (((((a + b) / 2) + m) - 1 : Nat) : Int)] .nil (by kernel_rfl) (fun b314 => ?_)
            refine blk_n ?_
            refine thn_n ?_
            exact ⟨((s + r) / 2) - (s), (by omega), s, (s + r) / 2, rfl, ⟨by omega, srh_yes hcm hp (by omega) hu1 hu2 hx pb (by omega) (by omega) (by omega) (by omega) (by omega) (by omega) (by omega) (by omega) (by simpa using h312)⟩, by kernel_rfl, (((hp308.pull0).pull1).sub (.cons_cons _ (.cons_cons _ (.refl _))))⟩
        · refine WP.exit ?_
          refine thn_x ?_
          refine thn_x ?_
          refine blk_hit ?_
          refine thn_n ?_
          refine WP.seq ?_
          obtain rfl : s = r := by omega
          have hmid := mid_found (e := ((a + b) / 2 + m - s)) (c := ((a + b) / 2)) pb (by omega) (by omega) (by omega) rfl rfl (by omega) h1 h2
          have hmle := hmid.le
          refine WP.pure { subs := [137] } [.int .i64 (((((a + b) / 2) + m) - s : Nat) : Int)] [1, 2, 3, 4, 16, 18, 22] [.int .i64 ((a : Nat) : Int), .int .i64 ((m : Nat) : Int), .int .i64 ((b : Nat) : Int), .pointer (some ⟨g3, 0, none⟩), .int .i64 (((a + b) / 2 : Nat) : Int), .int .i64 ((s : Nat) : Int), .int .i64 (((((a + b) / 2) + m) - s : Nat) : Int)] (.cons (show Rng .i64 (((((a + b) / 2) + m : Nat) : Int) - ((s : Nat) : Int)) from Rng.i64 (by omega)) (.cons (show (.int .i64 (((((a + b) / 2) + m : Nat) : Int) - ((s : Nat) : Int)) : Go.Value) = .int .i64 (((((a + b) / 2) + m) - s : Nat) : Int) from congrArg (Value.int .i64) ((show ((((a + b) / 2) + m : Nat) : Int) - ((s : Nat) : Int) = (((((a + b) / 2) + m) - s : Nat) : Int) by omega))) .nil)) (by kernel_rfl) (fun b315 => ?_)
          refine thn_n ?_
          refine WP.seq ?_
          refine WP.cut (fun e325 w326 => ∃ (x323 : Bool), (True) ∧ Bp x323 ((((s : Nat) : Int) < ((m : Nat) : Int)) ∧ (((m : Nat) : Int) < (((((a + b) / 2) + m) - s : Nat) : Int))) ∧ List.map e325 [1, 2, 3, 4, 16, 18, 22, 145] = [.int .i64 ((a : Nat) : Int), .int .i64 ((m : Nat) : Int), .int .i64 ((b : Nat) : Int), .pointer (some ⟨g3, 0, none⟩), .int .i64 (((a + b) / 2 : Nat) : Int), .int .i64 ((s : Nat) : Int), .int .i64 (((((a + b) / 2) + m) - s : Nat) : Int), .bool x323] ∧ Hp w0 Non (Res.row g3 [.func (.func g) #[] #[c1, c2], .func (.func sf) #[] #[s1, s2]] 164 :: Res.own 3 1 (.slice sa sn sc) sn (List.flatMap (fun (y : Int) => [Go.Value.int .i64 y]) l) :: L) w326) ?_ ?_
          · refine WP.region _ rfl (by kernel_rfl) ?_
            refine OPS.batch 4 {} [] [1, 2, 3, 4, 16, 18, 22, 141] [.int .i64 ((a : Nat) : Int), .int .i64 ((m : Nat) : Int), .int .i64 ((b : Nat) : Int), .pointer (some ⟨g3, 0, none⟩), .int .i64 (((a + b) / 2 : Nat) : Int), .int .i64 ((s : Nat) : Int), .int .i64 (((((a + b) / 2) + m) - s : Nat) : Int), .bool (decide (((s : Nat) : Int) < ((m : Nat) : Int)))] .nil (by kernel_rfl) (fun b317 => ?_)
            by_cases h318 : ((s : Nat) : Int) < ((m : Nat) : Int)
            · refine OPS.batch 0 {} [] [1, 2, 3, 4, 16, 18, 22, 141] [.int .i64 ((a : Nat) : Int), .int .i64 ((m : Nat) : Int), .int .i64 ((b : Nat) : Int), .pointer (some ⟨g3, 0, none⟩), .int .i64 (((a + b) / 2 : Nat) : Int), .int .i64 ((s : Nat) : Int), .int .i64 (((((a + b) / 2) + m) - s : Nat) : Int), .bool (decide (((s : Nat) : Int) < ((m : Nat) : Int)))] .nil (by kernel_rfl) (fun b319 => ?_)
              refine OPS.re [.int .i64 ((a : Nat) : Int), .int .i64 ((m : Nat) : Int), .int .i64 ((b : Nat) : Int), .pointer (some ⟨g3, 0, none⟩), .int .i64 (((a + b) / 2 : Nat) : Int), .int .i64 ((s : Nat) : Int), .int .i64 (((((a + b) / 2) + m) - s : Nat) : Int), .bool true] (by rw [show (decide (((s : Nat) : Int) < ((m : Nat) : Int))) = true from Bp.dec.tt h318]) ?_
              refine OPS.batch 4 { wraps := [145] } [] [1, 2, 3, 4, 16, 18, 22, 145] [.int .i64 ((a : Nat) : Int), .int .i64 ((m : Nat) : Int), .int .i64 ((b : Nat) : Int), .pointer (some ⟨g3, 0, none⟩), .int .i64 (((a + b) / 2 : Nat) : Int), .int .i64 ((s : Nat) : Int), .int .i64 (((((a + b) / 2) + m) - s : Nat) : Int), .bool (decide (((m : Nat) : Int) < (((((a + b) / 2) + m) - s : Nat) : Int)))] .nil (by kernel_rfl) (fun b320 => ?_)
              refine OPS.nil ?_
              refine thn_n ?_
              exact ⟨decide (((m : Nat) : Int) < (((((a + b) / 2) + m) - s : Nat) : Int)), trivial, Bp.of Bp.dec (by first | (simp only [h318, iff_false, false_iff, iff_true, true_iff, Classical.not_not, and_true, true_and, and_false, false_and, or_true, true_or, or_false, false_or, not_true_eq_false, not_false_eq_true, and_self, or_self, iff_self]; done) | (simp [h318]; done) | simp_all), by kernel_rfl, hp295⟩
            · refine OPS.batch 0 {} [] [1, 2, 3, 4, 16, 18, 22, 141] [.int .i64 ((a : Nat) : Int), .int .i64 ((m : Nat) : Int), .int .i64 ((b : Nat) : Int), .pointer (some ⟨g3, 0, none⟩), .int .i64 (((a + b) / 2 : Nat) : Int), .int .i64 ((s : Nat) : Int), .int .i64 (((((a + b) / 2) + m) - s : Nat) : Int), .bool (decide (((s : Nat) : Int) < ((m : Nat) : Int)))] .nil (by kernel_rfl) (fun b321 => ?_)
              refine OPS.re [.int .i64 ((a : Nat) : Int), .int .i64 ((m : Nat) : Int), .int .i64 ((b : Nat) : Int), .pointer (some ⟨g3, 0, none⟩), .int .i64 (((a + b) / 2 : Nat) : Int), .int .i64 ((s : Nat) : Int), .int .i64 (((((a + b) / 2) + m) - s : Nat) : Int), .bool false] (by rw [show (decide (((s : Nat) : Int) < ((m : Nat) : Int))) = false from Bp.dec.ff h318]) ?_
              refine OPS.batch 4 { wraps := [145] } [] [1, 2, 3, 4, 16, 18, 22, 145] [.int .i64 ((a : Nat) : Int), .int .i64 ((m : Nat) : Int), .int .i64 ((b : Nat) : Int), .pointer (some ⟨g3, 0, none⟩), .int .i64 (((a + b) / 2 : Nat) : Int), .int .i64 ((s : Nat) : Int), .int .i64 (((((a + b) / 2) + m) - s : Nat) : Int), .bool false] .nil (by kernel_rfl) (fun b322 => ?_)
              refine OPS.nil ?_
              refine thn_n ?_
              exact ⟨false, trivial, Bp.of Bp.f (by first | (simp only [h318, iff_false, false_iff, iff_true, true_iff, Classical.not_not, and_true, true_and, and_false, false_and, or_true, true_or, or_false, false_or, not_true_eq_false, not_false_eq_true, and_self, or_self, iff_self]; done) | (simp [h318]; done) | simp_all), by kernel_rfl, hp295⟩
          rintro e325 w326 ⟨x323, hd328, hb324, hE329, hp327⟩
          obtain ⟨b330, rfl⟩ := toMk hE329
          clear hE329
          clear hd328
          refine WP.test (p := (((s : Nat) : Int) < ((m : Nat) : Int)) ∧ (((m : Nat) : Int) < (((((a + b) / 2) + m) - s : Nat) : Int))) rfl hb324 (fun h331 => ?_) (fun h331 => ?_)
          · refine WP.region _ rfl (by kernel_rfl) ?_
            refine OPS.batch 4 {} [.agg #[.func (.func g) #[] #[c1, c2], .func (.func sf) #[] #[s1, s2]]] [1, 3, 4, 16, 18, 22, 146, 147, 148, 149] [.int .i64 ((a : Nat) : Int), .int .i64 ((b : Nat) : Int), .pointer (some ⟨g3, 0, none⟩), .int .i64 (((a + b) / 2 : Nat) : Int), .int .i64 ((s : Nat) : Int), .int .i64 (((((a + b) / 2) + m) - s : Nat) : Int), .agg #[.func (.func g) #[] #[c1, c2], .func (.func sf) #[] #[s1, s2]], .int .i64 ((s : Nat) : Int), .int .i64 ((m : Nat) : Int), .int .i64 (((((a + b) / 2) + m) - s : Nat) : Int)] (.cons (show Ld Try.prog w326 164 ⟨g3, 0, none⟩ (.agg #[.func (.func g) #[] #[c1, c2], .func (.func sf) #[] #[s1, s2]]) from Ld.rowN (cs := [.func (.func g) #[] #[c1, c2], .func (.func sf) #[] #[s1, s2]]) hp327.get0 (by kernel_rfl)) .nil) (by kernel_rfl) (fun b332 => ?_)
            have hp335 := hp327.pull1
            refine OPS.cons (opStep.call (some 150) [.agg #[.func (.func g) #[] #[c1, c2], .func (.func sf) #[] #[s1, s2]], .int .i64 ((s : Nat) : Int), .int .i64 ((m : Nat) : Int), .int .i64 (((((a + b) / 2) + m) - s : Nat) : Int)] (by kernel_rfl) (st_rotate w0 g sf c1 c2 s1 s2 sa sn sc l0 lt R hcm hn0 hnb _ (hless.app _) (hswap.app _) s m ((((a + b) / 2) + m) - s) l (by omega) (by omega) (by omega) (show List.Perm l l0 from by first | assumption | exact hql) _ hp335) ?_)
            rintro _ w336 ⟨rfl, q338, hq339, hp337⟩
            refine ⟨_, rfl, ?_⟩
            refine OPS.nil ?_
            refine thn_n ?_
            refine WP.seq ?_
            refine WP.cut (fun e349 w350 => ∃ (x347 : Bool), (True) ∧ Bp x347 ((((a : Nat) : Int) < ((s : Nat) : Int)) ∧ (((s : Nat) : Int) < (((a + b) / 2 : Nat) : Int))) ∧ List.map e349 [1, 3, 4, 16, 18, 22, 158] = [.int .i64 ((a : Nat) : Int), .int .i64 ((b : Nat) : Int), .pointer (some ⟨g3, 0, none⟩), .int .i64 (((a + b) / 2 : Nat) : Int), .int .i64 ((s : Nat) : Int), .int .i64 (((((a + b) / 2) + m) - s : Nat) : Int), .bool x347] ∧ Hp w0 Non (Res.own 3 1 (.slice sa sn sc) sn (List.flatMap (fun (y : Int) => [Go.Value.int .i64 y]) q338) :: Res.row g3 [.func (.func g) #[] #[c1, c2], .func (.func sf) #[] #[s1, s2]] 164 :: L) w350) ?_ ?_
            · refine WP.region _ rfl (by kernel_rfl) ?_
              refine OPS.batch 4 {} [] [1, 3, 4, 16, 18, 22, 154] [.int .i64 ((a : Nat) : Int), .int .i64 ((b : Nat) : Int), .pointer (some ⟨g3, 0, none⟩), .int .i64 (((a + b) / 2 : Nat) : Int), .int .i64 ((s : Nat) : Int), .int .i64 (((((a + b) / 2) + m) - s : Nat) : Int), .bool (decide (((a : Nat) : Int) < ((s : Nat) : Int)))] .nil (by kernel_rfl) (fun b341 => ?_)
              by_cases h342 : ((a : Nat) : Int) < ((s : Nat) : Int)
              · refine OPS.batch 0 {} [] [1, 3, 4, 16, 18, 22, 154] [.int .i64 ((a : Nat) : Int), .int .i64 ((b : Nat) : Int), .pointer (some ⟨g3, 0, none⟩), .int .i64 (((a + b) / 2 : Nat) : Int), .int .i64 ((s : Nat) : Int), .int .i64 (((((a + b) / 2) + m) - s : Nat) : Int), .bool (decide (((a : Nat) : Int) < ((s : Nat) : Int)))] .nil (by kernel_rfl) (fun b343 => ?_)
                refine OPS.re [.int .i64 ((a : Nat) : Int), .int .i64 ((b : Nat) : Int), .pointer (some ⟨g3, 0, none⟩), .int .i64 (((a + b) / 2 : Nat) : Int), .int .i64 ((s : Nat) : Int), .int .i64 (((((a + b) / 2) + m) - s : Nat) : Int), .bool true] (by rw [show (decide (((a : Nat) : Int) < ((s : Nat) : Int))) = true from Bp.dec.tt h342]) ?_
                refine OPS.batch 4 { wraps := [158] } [] [1, 3, 4, 16, 18, 22, 158] [.int .i64 ((a : Nat) : Int), .int .i64 ((b : Nat) : Int), .pointer (some ⟨g3, 0, none⟩), .int .i64 (((a + b) / 2 : Nat) : Int), .int .i64 ((s : Nat) : Int), .int .i64 (((((a + b) / 2) + m) - s : Nat) : Int), .bool (decide (((s : Nat) : Int) < (((a + b) / 2 : Nat) : Int)))] .nil (by kernel_rfl) (fun b344 => ?_)
                refine OPS.nil ?_
                refine thn_n ?_
                exact ⟨decide (((s : Nat) : Int) < (((a + b) / 2 : Nat) : Int)), trivial, Bp.of Bp.dec (by first | (simp only [h342, iff_false, false_iff, iff_true, true_iff, Classical.not_not, and_true, true_and, and_false, false_and, or_true, true_or, or_false, false_or, not_true_eq_false, not_false_eq_true, and_self, or_self, iff_self]; done) | (simp [h342]; done) | simp_all), by kernel_rfl, hp337⟩
              · refine OPS.batch 0 {} [] [1, 3, 4, 16, 18, 22, 154] [.int .i64 ((a : Nat) : Int), .int .i64 ((b : Nat) : Int), .pointer (some ⟨g3, 0, none⟩), .int .i64 (((a + b) / 2 : Nat) : Int), .int .i64 ((s : Nat) : Int), .int .i64 (((((a + b) / 2) + m) - s : Nat) : Int), .bool (decide (((a : Nat) : Int) < ((s : Nat) : Int)))] .nil (by kernel_rfl) (fun b345 => ?_)
                refine OPS.re [.int .i64 ((a : Nat) : Int), .int .i64 ((b : Nat) : Int), .pointer (some ⟨g3, 0, none⟩), .int .i64 (((a + b) / 2 : Nat) : Int), .int .i64 ((s : Nat) : Int), .int .i64 (((((a + b) / 2) + m) - s : Nat) : Int), .bool false] (by rw [show (decide (((a : Nat) : Int) < ((s : Nat) : Int))) = false from Bp.dec.ff h342]) ?_
                refine OPS.batch 4 { wraps := [158] } [] [1, 3, 4, 16, 18, 22, 158] [.int .i64 ((a : Nat) : Int), .int .i64 ((b : Nat) : Int), .pointer (some ⟨g3, 0, none⟩), .int .i64 (((a + b) / 2 : Nat) : Int), .int .i64 ((s : Nat) : Int), .int .i64 (((((a + b) / 2) + m) - s : Nat) : Int), .bool false] .nil (by kernel_rfl) (fun b346 => ?_)
                refine OPS.nil ?_
                refine thn_n ?_
                exact ⟨false, trivial, Bp.of Bp.f (by first | (simp only [h342, iff_false, false_iff, iff_true, true_iff, Classical.not_not, and_true, true_and, and_false, false_and, or_true, true_or, or_false, false_or, not_true_eq_false, not_false_eq_true, and_self, or_self, iff_self]; done) | (simp [h342]; done) | simp_all), by kernel_rfl, hp337⟩
            rintro e349 w350 ⟨x347, hd352, hb348, hE353, hp351⟩
            obtain ⟨b354, rfl⟩ := toMk hE353
            clear hE353
            clear hd352
            refine WP.test (p := (((a : Nat) : Int) < ((s : Nat) : Int)) ∧ (((s : Nat) : Int) < (((a + b) / 2 : Nat) : Int))) rfl hb348 (fun h355 => ?_) (fun h355 => ?_)
            · refine WP.region _ rfl (by kernel_rfl) ?_
              refine OPS.batch 4 {} [.agg #[.func (.func g) #[] #[c1, c2], .func (.func sf) #[] #[s1, s2]]] [3, 4, 16, 22, 159, 160, 161, 162] [.int .i64 ((b : Nat) : Int), .pointer (some ⟨g3, 0, none⟩), .int .i64 (((a + b) / 2 : Nat) : Int), .int .i64 (((((a + b) / 2) + m) - s : Nat) : Int), .agg #[.func (.func g) #[] #[c1, c2], .func (.func sf) #[] #[s1, s2]], .int .i64 ((a : Nat) : Int), .int .i64 ((s : Nat) : Int), .int .i64 (((a + b) / 2 : Nat) : Int)] (.cons (show Ld Try.prog w350 164 ⟨g3, 0, none⟩ (.agg #[.func (.func g) #[] #[c1, c2], .func (.func sf) #[] #[s1, s2]]) from Ld.rowN (cs := [.func (.func g) #[] #[c1, c2], .func (.func sf) #[] #[s1, s2]]) hp351.get1 (by kernel_rfl)) .nil) (by kernel_rfl) (fun b356 => ?_)
              have hp359 := hp351.pull0
              refine OPS.cons (opStep.call (some 163) [.agg #[.func (.func g) #[] #[c1, c2], .func (.func sf) #[] #[s1, s2]], .int .i64 ((a : Nat) : Int), .int .i64 ((s : Nat) : Int), .int .i64 (((a + b) / 2 : Nat) : Int)] (by kernel_rfl) (ih (((a + b) / 2) - a) (by omega) _ (hless.app _) (hswap.app _) a s ((a + b) / 2) q338 _ rfl (by omega) (by omega) (by omega) (show List.Perm q338 l0 from by first | assumption | exact hql | exact hq339.1.trans hp) (mid_rot hcm hmid hu1 hu2 hx hq339.2).u1 (mid_rot hcm hmid hu1 hu2 hx hq339.2).u2 (mid_rot hcm hmid hu1 hu2 hx hq339.2).x1 hp359) ?_)
              rintro _ w360 ⟨rfl, q362, hq363, hp361⟩
              refine ⟨_, rfl, ?_⟩
              refine OPS.nil ?_
              refine thn_n ?_
              refine WP.cut (fun e373 w374 => ∃ (x371 : Bool), (True) ∧ Bp x371 (((((a + b) / 2 : Nat) : Int) < (((((a + b) / 2) + m) - s : Nat) : Int)) ∧ ((((((a + b) / 2) + m) - s : Nat) : Int) < ((b : Nat) : Int))) ∧ List.map e373 [3, 4, 16, 22, 171] = [.int .i64 ((b : Nat) : Int), .pointer (some ⟨g3, 0, none⟩), .int .i64 (((a + b) / 2 : Nat) : Int), .int .i64 (((((a + b) / 2) + m) - s : Nat) : Int), .bool x371] ∧ Hp w0 Non (Res.own 3 1 (.slice sa sn sc) sn (List.flatMap (fun (y : Int) => [Go.Value.int .i64 y]) q362) :: Res.row g3 [.func (.func g) #[] #[c1, c2], .func (.func sf) #[] #[s1, s2]] 164 :: L) w374) ?_ ?_
              · refine WP.region _ rfl (by kernel_rfl) ?_
                refine OPS.batch 4 {} [] [3, 4, 16, 22, 167] [.int .i64 ((b : Nat) : Int), .pointer (some ⟨g3, 0, none⟩), .int .i64 (((a + b) / 2 : Nat) : Int), .int .i64 (((((a + b) / 2) + m) - s : Nat) : Int), .bool (decide ((((a + b) / 2 : Nat) : Int) < (((((a + b) / 2) + m) - s : Nat) : Int)))] .nil (by kernel_rfl) (fun b365 => ?_)
                by_cases h366 : (((a + b) / 2 : Nat) : Int) < (((((a + b) / 2) + m) - s : Nat) : Int)
                · refine OPS.batch 0 {} [] [3, 4, 16, 22, 167] [.int .i64 ((b : Nat) : Int), .pointer (some ⟨g3, 0, none⟩), .int .i64 (((a + b) / 2 : Nat) : Int), .int .i64 (((((a + b) / 2) + m) - s : Nat) : Int), .bool (decide ((((a + b) / 2 : Nat) : Int) < (((((a + b) / 2) + m) - s : Nat) : Int)))] .nil (by kernel_rfl) (fun b367 => ?_)
                  refine OPS.re [.int .i64 ((b : Nat) : Int), .pointer (some ⟨g3, 0, none⟩), .int .i64 (((a + b) / 2 : Nat) : Int), .int .i64 (((((a + b) / 2) + m) - s : Nat) : Int), .bool true] (by rw [show (decide ((((a + b) / 2 : Nat) : Int) < (((((a + b) / 2) + m) - s : Nat) : Int))) = true from Bp.dec.tt h366]) ?_
                  refine OPS.batch 4 { wraps := [171] } [] [3, 4, 16, 22, 171] [.int .i64 ((b : Nat) : Int), .pointer (some ⟨g3, 0, none⟩), .int .i64 (((a + b) / 2 : Nat) : Int), .int .i64 (((((a + b) / 2) + m) - s : Nat) : Int), .bool (decide ((((((a + b) / 2) + m) - s : Nat) : Int) < ((b : Nat) : Int)))] .nil (by kernel_rfl) (fun b368 => ?_)
                  refine OPS.nil ?_
                  refine thn_n ?_
                  exact ⟨decide ((((((a + b) / 2) + m) - s : Nat) : Int) < ((b : Nat) : Int)), trivial, Bp.of Bp.dec (by first | (simp only [h366, iff_false, false_iff, iff_true, true_iff, Classical.not_not, and_true, true_and, and_false, false_and, or_true, true_or, or_false, false_or, not_true_eq_false, not_false_eq_true, and_self, or_self, iff_self]; done) | (simp [h366]; done) | simp_all), by kernel_rfl, hp361⟩
                · refine OPS.batch 0 {} [] [3, 4, 16, 22, 167] [.int .i64 ((b : Nat) : Int), .pointer (some ⟨g3, 0, none⟩), .int .i64 (((a + b) / 2 : Nat) : Int), .int .i64 (((((a + b) / 2) + m) - s : Nat) : Int), .bool (decide ((((a + b) / 2 : Nat) : Int) < (((((a + b) / 2) + m) - s : Nat) : Int)))] .nil (by kernel_rfl) (fun b369 => ?_)
                  refine OPS.re [.int .i64 ((b : Nat) : Int), .pointer (some ⟨g3, 0, none⟩), .int .i64 (((a + b) / 2 : Nat) : Int), .int .i64 (((((a + b) / 2) + m) - s : Nat) : Int), .bool false] (by rw [show (decide ((((a + b) / 2 : Nat) : Int) < (((((a + b) / 2) + m) - s : Nat) : Int))) = false from Bp.dec.ff h366]) ?_
                  refine OPS.batch 4 { wraps := [171] } [] [3, 4, 16, 22, 171] [.int .i64 ((b : Nat) : Int), .pointer (some ⟨g3, 0, none⟩), .int .i64 (((a + b) / 2 : Nat) : Int), .int .i64 (((((a + b) / 2) + m) - s : Nat) : Int), .bool false] .nil (by kernel_rfl) (fun b370 => ?_)
                  refine OPS.nil ?_
                  refine thn_n ?_
                  exact ⟨false, trivial, Bp.of Bp.f (by first | (simp only [h366, iff_false, false_iff, iff_true, true_iff, Classical.not_not, and_true, true_and, and_false, false_and, or_true, true_or, or_false, false_or, not_true_eq_false, not_false_eq_true, and_self, or_self, iff_self]; done) | (simp [h366]; done) | simp_all), by kernel_rfl, hp361⟩
              rintro e373 w374 ⟨x371, hd376, hb372, hE377, hp375⟩
              obtain ⟨b378, rfl⟩ := toMk hE377
              clear hE377
              clear hd376
              refine WP.test (p := ((((a + b) / 2 : Nat) : Int) < (((((a + b) / 2) + m) - s : Nat) : Int)) ∧ ((((((a + b) / 2) + m) - s : Nat) : Int) < ((b : Nat) : Int))) rfl hb372 (fun h379 => ?_) (fun h379 => ?_)
              · refine WP.region _ rfl (by kernel_rfl) ?_
                refine OPS.batch 4 {} [.agg #[.func (.func g) #[] #[c1, c2], .func (.func sf) #[] #[s1, s2]]] [172, 173, 174, 175] [.agg #[.func (.func g) #[] #[c1, c2], .func (.func sf) #[] #[s1, s2]], .int .i64 (((a + b) / 2 : Nat) : Int), .int .i64 (((((a + b) / 2) + m) - s : Nat) : Int), .int .i64 ((b : Nat) : Int)] (.cons (show Ld Try.prog w374 164 ⟨g3, 0, none⟩ (.agg #[.func (.func g) #[] #[c1, c2], .func (.func sf) #[] #[s1, s2]]) from Ld.rowN (cs := [.func (.func g) #[] #[c1, c2], .func (.func sf) #[] #[s1, s2]]) hp375.get1 (by kernel_rfl)) .nil) (by kernel_rfl) (fun b380 => ?_)
                have hp383 := hp375.pull0
                refine OPS.cons (opStep.call (some 176) [.agg #[.func (.func g) #[] #[c1, c2], .func (.func sf) #[] #[s1, s2]], .int .i64 (((a + b) / 2 : Nat) : Int), .int .i64 (((((a + b) / 2) + m) - s : Nat) : Int), .int .i64 ((b : Nat) : Int)] (by kernel_rfl) (ih (b - ((a + b) / 2)) (by omega) _ (hless.app _) (hswap.app _) ((a + b) / 2) ((a + b) / 2 + m - s) b q362 _ rfl (by omega) (by omega) (by omega) (show List.Perm q362 l0 from by first | assumption | exact hql | exact hq363.1.perm.trans (hq339.1.trans hp)) ((mid_rot hcm hmid hu1 hu2 hx hq339.2).u3.mv hq363.1 (by omega)) ((mid_rot hcm hmid hu1 hu2 hx hq339.2).u4.mv hq363.1 (by omega)) ((mid_rot hcm hmid hu1 hu2 hx hq339.2).x2.mv hq363.1) hp383) ?_)
                rintro _ w384 ⟨rfl, q386, hq387, hp385⟩
                refine ⟨_, rfl, ?_⟩
                refine OPS.nil ?_
                refine bodyQ.ofN ?_
                refine bodyQ.of _ rfl [] trivial ?_
                have hm2 := mid_rot hcm hmid hu1 hu2 hx hq339.2
                have hmr := rot_mv (l := l) (a := a) (b := b) (s := s) (m := m) (e := ((a + b) / 2 + m - s)) hq339.1 hq339.2 (by omega)
                have hrl := hmr.len
                have hfin := mid_up (by omega) (by omega) hm2.all hq363.1 hq363.2 hq387.1 hq387.2
                exact ⟨rfl, _, ⟨hmr.trans hfin.2, hfin.1⟩, (hp385.sub (.cons_cons _ (.cons _ (.refl _))))⟩
              · refine WP.skip ?_
                refine bodyQ.ofN ?_
                refine bodyQ.of _ rfl [] trivial ?_
                have hm2 := mid_rot hcm hmid hu1 hu2 hx hq339.2
                have hmr := rot_mv (l := l) (a := a) (b := b) (s := s) (m := m) (e := ((a + b) / 2 + m - s)) hq339.1 hq339.2 (by omega)
                have hrl := hmr.len
                have hfin := mid_up (by omega) (by omega) hm2.all hq363.1 hq363.2 (Mv.refl _ _ _) ((skip_up hm2.u3 hm2.u4 (by omega) (by omega)).mv hq363.1 (by omega))
                exact ⟨rfl, _, ⟨hmr.trans hfin.2, hfin.1⟩, (hp375.sub (.cons_cons _ (.cons _ (.refl _))))⟩
            · refine WP.skip ?_
              refine thn_n ?_
              refine WP.cut (fun e397 w398 => ∃ (x395 : Bool), (True) ∧ Bp x395 (((((a + b) / 2 : Nat) : Int) < (((((a + b) / 2) + m) - s : Nat) : Int)) ∧ ((((((a + b) / 2) + m) - s : Nat) : Int) < ((b : Nat) : Int))) ∧ List.map e397 [3, 4, 16, 22, 171] = [.int .i64 ((b : Nat) : Int), .pointer (some ⟨g3, 0, none⟩), .int .i64 (((a + b) / 2 : Nat) : Int), .int .i64 (((((a + b) / 2) + m) - s : Nat) : Int), .bool x395] ∧ Hp w0 Non (Res.own 3 1 (.slice sa sn sc) sn (List.flatMap (fun (y : Int) => [Go.Value.int .i64 y]) q338) :: Res.row g3 [.func (.func g) #[] #[c1, c2], .func (.func sf) #[] #[s1, s2]] 164 :: L) w398) ?_ ?_
              · refine WP.region _ rfl (by kernel_rfl) ?_
                refine OPS.batch 4 {} [] [3, 4, 16, 22, 167] [.int .i64 ((b : Nat) : Int), .pointer (some ⟨g3, 0, none⟩), .int .i64 (((a + b) / 2 : Nat) : Int), .int .i64 (((((a + b) / 2) + m) - s : Nat) : Int), .bool (decide ((((a + b) / 2 : Nat) : Int) < (((((a + b) / 2) + m) - s : Nat) : Int)))] .nil (by kernel_rfl) (fun b389 => ?_)
                by_cases h390 : (((a + b) / 2 : Nat) : Int) < (((((a + b) / 2) + m) - s : Nat) : Int)
                · refine OPS.batch 0 {} [] [3, 4, 16, 22, 167] [.int .i64 ((b : Nat) : Int), .pointer (some ⟨g3, 0, none⟩), .int .i64 (((a + b) / 2 : Nat) : Int), .int .i64 (((((a + b) / 2) + m) - s : Nat) : Int), .bool (decide ((((a + b) / 2 : Nat) : Int) < (((((a + b) / 2) + m) - s : Nat) : Int)))] .nil (by kernel_rfl) (fun b391 => ?_)
                  refine OPS.re [.int .i64 ((b : Nat) : Int), .pointer (some ⟨g3, 0, none⟩), .int .i64 (((a + b) / 2 : Nat) : Int), .int .i64 (((((a + b) / 2) + m) - s : Nat) : Int), .bool true] (by rw [show (decide ((((a + b) / 2 : Nat) : Int) < (((((a + b) / 2) + m) - s : Nat) : Int))) = true from Bp.dec.tt h390]) ?_
                  refine OPS.batch 4 { wraps := [171] } [] [3, 4, 16, 22, 171] [.int .i64 ((b : Nat) : Int), .pointer (some ⟨g3, 0, none⟩), .int .i64 (((a + b) / 2 : Nat) : Int), .int .i64 (((((a + b) / 2) + m) - s : Nat) : Int), .bool (decide ((((((a + b) / 2) + m) - s : Nat) : Int) < ((b : Nat) : Int)))] .nil (by kernel_rfl) (fun b392 => ?_)
                  refine OPS.nil ?_
                  refine thn_n ?_
                  exact ⟨decide ((((((a + b) / 2) + m) - s : Nat) : Int) < ((b : Nat) : Int)), trivial, Bp.of Bp.dec (by first | (simp only [h390, iff_false, false_iff, iff_true, true_iff, Classical.not_not, and_true, true_and, and_false, false_and, or_true, true_or, or_false, false_or, not_true_eq_false, not_false_eq_true, and_self, or_self, iff_self]; done) | (simp [h390]; done) | simp_all), by kernel_rfl, hp351⟩
                · refine OPS.batch 0 {} [] [3, 4, 16, 22, 167] [.int .i64 ((b : Nat) : Int), .pointer (some ⟨g3, 0, none⟩), .int .i64 (((a + b) / 2 : Nat) : Int), .int .i64 (((((a + b) / 2) + m) - s : Nat) : Int), .bool (decide ((((a + b) / 2 : Nat) : Int) < (((((a + b) / 2) + m) - s : Nat) : Int)))] .nil (by kernel_rfl) (fun b393 => ?_)
                  refine OPS.re [.int .i64 ((b : Nat) : Int), .pointer (some ⟨g3, 0, none⟩), .int .i64 (((a + b) / 2 : Nat) : Int), .int .i64 (((((a + b) / 2) + m) - s : Nat) : Int), .bool false] (by rw [show (decide ((((a + b) / 2 : Nat) : Int) < (((((a + b) / 2) + m) - s : Nat) : Int))) = false from Bp.dec.ff h390]) ?_
                  refine OPS.batch 4 { wraps := [171] } [] [3, 4, 16, 22, 171] [.int .i64 ((b : Nat) : Int), .pointer (some ⟨g3, 0, none⟩), .int .i64 (((a + b) / 2 : Nat) : Int), .int .i64 (((((a + b) / 2) + m) - s : Nat) : Int), .bool false] .nil (by kernel_rfl) (fun b394 => ?_)
                  refine OPS.nil ?_
                  refine thn_n ?_
                  exact ⟨false, trivial, Bp.of Bp.f (by first | (simp only [h390, iff_false, false_iff, iff_true, true_iff, Classical.not_not, and_true, true_and, and_false, false_and, or_true, true_or, or_false, false_or, not_true_eq_false, not_false_eq_true, and_self, or_self, iff_self]; done) | (simp [h390]; done) | simp_all), by kernel_rfl, hp351⟩
              rintro e397 w398 ⟨x395, hd400, hb396, hE401, hp399⟩
              obtain ⟨b402, rfl⟩ := toMk hE401
              clear hE401
              clear hd400
              refine WP.test (p := ((((a + b) / 2 : Nat) : Int) < (((((a + b) / 2) + m) - s : Nat) : Int)) ∧ ((((((a + b) / 2) + m) - s : Nat) : Int) < ((b : Nat) : Int))) rfl hb396 (fun h403 => ?_) (fun h403 => ?_)
              · refine WP.region _ rfl (by kernel_rfl) ?_
                refine OPS.batch 4 {} [.agg #[.func (.func g) #[] #[c1, c2], .func (.func sf) #[] #[s1, s2]]] [172, 173, 174, 175] [.agg #[.func (.func g) #[] #[c1, c2], .func (.func sf) #[] #[s1, s2]], .int .i64 (((a + b) / 2 : Nat) : Int), .int .i64 (((((a + b) / 2) + m) - s : Nat) : Int), .int .i64 ((b : Nat) : Int)] (.cons (show Ld Try.prog w398 164 ⟨g3, 0, none⟩ (.agg #[.func (.func g) #[] #[c1, c2], .func (.func sf) #[] #[s1, s2]]) from Ld.rowN (cs := [.func (.func g) #[] #[c1, c2], .func (.func sf) #[] #[s1, s2]]) hp399.get1 (by kernel_rfl)) .nil) (by kernel_rfl) (fun b404 => ?_)
                have hp407 := hp399.pull0
                refine OPS.cons (opStep.call (some 176) [.agg #[.func (.func g) #[] #[c1, c2], .func (.func sf) #[] #[s1, s2]], .int .i64 (((a + b) / 2 : Nat) : Int), .int .i64 (((((a + b) / 2) + m) - s : Nat) : Int), .int .i64 ((b : Nat) : Int)] (by kernel_rfl) (ih (b - ((a + b) / 2)) (by omega) _ (hless.app _) (hswap.app _) ((a + b) / 2) ((a + b) / 2 + m - s) b q338 _ rfl (by omega) (by omega) (by omega) (show List.Perm q338 l0 from by first | assumption | exact hql | exact hq339.1.trans hp) (mid_rot hcm hmid hu1 hu2 hx hq339.2).u3 (mid_rot hcm hmid hu1 hu2 hx hq339.2).u4 (mid_rot hcm hmid hu1 hu2 hx hq339.2).x2 hp407) ?_)
                rintro _ w408 ⟨rfl, q410, hq411, hp409⟩
                refine ⟨_, rfl, ?_⟩
                refine OPS.nil ?_
                refine bodyQ.ofN ?_
                refine bodyQ.of _ rfl [] trivial ?_
                have hm2 := mid_rot hcm hmid hu1 hu2 hx hq339.2
                have hmr := rot_mv (l := l) (a := a) (b := b) (s := s) (m := m) (e := ((a + b) / 2 + m - s)) hq339.1 hq339.2 (by omega)
                have hrl := hmr.len
                have hfin := mid_up (by omega) (by omega) hm2.all (Mv.refl _ _ _) (skip_up hm2.u1 hm2.u2 (by omega) (by omega)) hq411.1 hq411.2
                exact ⟨rfl, _, ⟨hmr.trans hfin.2, hfin.1⟩, (hp409.sub (.cons_cons _ (.cons _ (.refl _))))⟩
              · refine WP.skip ?_
                refine bodyQ.ofN ?_
                refine bodyQ.of _ rfl [] trivial ?_
                have hm2 := mid_rot hcm hmid hu1 hu2 hx hq339.2
                have hmr := rot_mv (l := l) (a := a) (b := b) (s := s) (m := m) (e := ((a + b) / 2 + m - s)) hq339.1 hq339.2 (by omega)
                have hrl := hmr.len
                have hfin := mid_up (by omega) (by omega) hm2.all (Mv.refl _ _ _) (skip_up hm2.u1 hm2.u2 (by omega) (by omega)) (Mv.refl _ _ _) (skip_up hm2.u3 hm2.u4 (by omega) (by omega))
                exact ⟨rfl, _, ⟨hmr.trans hfin.2, hfin.1⟩, (hp399.sub (.cons_cons _ (.cons _ (.refl _))))⟩
          · refine WP.skip ?_
            refine thn_n ?_
            refine WP.seq ?_
            refine WP.cut (fun e421 w422 => ∃ (x419 : Bool), (True) ∧ Bp x419 ((((a : Nat) : Int) < ((s : Nat) : Int)) ∧ (((s : Nat) : Int) < (((a + b) / 2 : Nat) : Int))) ∧ List.map e421 [1, 3, 4, 16, 18, 22, 158] = [.int .i64 ((a : Nat) : Int), .int .i64 ((b : Nat) : Int), .pointer (some ⟨g3, 0, none⟩), .int .i64 (((a + b) / 2 : Nat) : Int), .int .i64 ((s : Nat) : Int), .int .i64 (((((a + b) / 2) + m) - s : Nat) : Int), .bool x419] ∧ Hp w0 Non (Res.row g3 [.func (.func g) #[] #[c1, c2], .func (.func sf) #[] #[s1, s2]] 164 :: Res.own 3 1 (.slice sa sn sc) sn (List.flatMap (fun (y : Int) => [Go.Value.int .i64 y]) l) :: L) w422) ?_ ?_
            · refine WP.region _ rfl (by kernel_rfl) ?_
              refine OPS.batch 4 {} [] [1, 3, 4, 16, 18, 22, 154] [.int .i64 ((a : Nat) : Int), .int .i64 ((b : Nat) : Int), .pointer (some ⟨g3, 0, none⟩), .int .i64 (((a + b) / 2 : Nat) : Int), .int .i64 ((s : Nat) : Int), .int .i64 (((((a + b) / 2) + m) - s : Nat) : Int), .bool (decide (((a : Nat) : Int) < ((s : Nat) : Int)))] .nil (by kernel_rfl) (fun b413 => ?_)
              by_cases h414 : ((a : Nat) : Int) < ((s : Nat) : Int)
              · refine OPS.batch 0 {} [] [1, 3, 4, 16, 18, 22, 154] [.int .i64 ((a : Nat) : Int), .int .i64 ((b : Nat) : Int), .pointer (some ⟨g3, 0, none⟩), .int .i64 (((a + b) / 2 : Nat) : Int), .int .i64 ((s : Nat) : Int), .int .i64 (((((a + b) / 2) + m) - s : Nat) : Int), .bool (decide (((a : Nat) : Int) < ((s : Nat) : Int)))] .nil (by kernel_rfl) (fun b415 => ?_)
                refine OPS.re [.int .i64 ((a : Nat) : Int), .int .i64 ((b : Nat) : Int), .pointer (some ⟨g3, 0, none⟩), .int .i64 (((a + b) / 2 : Nat) : Int), .int .i64 ((s : Nat) : Int), .int .i64 (((((a + b) / 2) + m) - s : Nat) : Int), .bool true] (by rw [show (decide (((a : Nat) : Int) < ((s : Nat) : Int))) = true from Bp.dec.tt h414]) ?_
                refine OPS.batch 4 { wraps := [158] } [] [1, 3, 4, 16, 18, 22, 158] [.int .i64 ((a : Nat) : Int), .int .i64 ((b : Nat) : Int), .pointer (some ⟨g3, 0, none⟩), .int .i64 (((a + b) / 2 : Nat) : Int), .int .i64 ((s : Nat) : Int), .int .i64 (((((a + b) / 2) + m) - s : Nat) : Int), .bool (decide (((s : Nat) : Int) < (((a + b) / 2 : Nat) : Int)))] .nil (by kernel_rfl) (fun b416 => ?_)
                refine OPS.nil ?_
                refine thn_n ?_
                exact ⟨decide (((s : Nat) : Int) < (((a + b) / 2 : Nat) : Int)), trivial, Bp.of Bp.dec (by first | (simp only [h414, iff_false, false_iff, iff_true, true_iff, Classical.not_not, and_true, true_and, and_false, false_and, or_true, true_or, or_false, false_or, not_true_eq_false, not_false_eq_true, and_self, or_self, iff_self]; done) | (simp [h414]; done) | simp_all), by kernel_rfl, hp327⟩
              · refine OPS.batch 0 {} [] [1, 3, 4, 16, 18, 22, 154] [.int .i64 ((a : Nat) : Int), .int .i64 ((b : Nat) : Int), .pointer (some ⟨g3, 0, none⟩), .int .i64 (((a + b) / 2 : Nat) : Int), .int .i64 ((s : Nat) : Int), .int .i64 (((((a + b) / 2) + m) - s : Nat) : Int), .bool (decide (((a : Nat) : Int) < ((s : Nat) : Int)))] .nil (by kernel_rfl) (fun b417 => ?_)
                refine OPS.re [.int .i64 ((a : Nat) : Int), .int .i64 ((b : Nat) : Int), .pointer (some ⟨g3, 0, none⟩), .int .i64 (((a + b) / 2 : Nat) : Int), .int .i64 ((s : Nat) : Int), .int .i64 (((((a + b) / 2) + m) - s : Nat) : Int), .bool false] (by rw [show (decide (((a : Nat) : Int) < ((s : Nat) : Int))) = false from Bp.dec.ff h414]) ?_
                refine OPS.batch 4 { wraps := [158] } [] [1, 3, 4, 16, 18, 22, 158] [.int .i64 ((a : Nat) : Int), .int .i64 ((b : Nat) : Int), .pointer (some ⟨g3, 0, none⟩), .int .i64 (((a + b) / 2 : Nat) : Int), .int .i64 ((s : Nat) : Int), .int .i64 (((((a + b) / 2) + m) - s : Nat) : Int), .bool false] .nil (by kernel_rfl) (fun b418 => ?_)
                refine OPS.nil ?_
                refine thn_n ?_
                exact ⟨false, trivial, Bp.of Bp.f (by first | (simp only [h414, iff_false, false_iff, iff_true, true_iff, Classical.not_not, and_true, true_and, and_false, false_and, or_true, true_or, or_false, false_or, not_true_eq_false, not_false_eq_true, and_self, or_self, iff_self]; done) | (simp [h414]; done) | simp_all), by kernel_rfl, hp327⟩
            rintro e421 w422 ⟨x419, hd424, hb420, hE425, hp423⟩
            obtain ⟨b426, rfl⟩ := toMk hE425
            clear hE425
            clear hd424
            refine WP.test (p := (((a : Nat) : Int) < ((s : Nat) : Int)) ∧ (((s : Nat) : Int) < (((a + b) / 2 : Nat) : Int))) rfl hb420 (fun h427 => ?_) (fun h427 => ?_)
            · refine WP.region _ rfl (by kernel_rfl) ?_
              refine OPS.batch 4 {} [.agg #[.func (.func g) #[] #[c1, c2], .func (.func sf) #[] #[s1, s2]]] [3, 4, 16, 22, 159, 160, 161, 162] [.int .i64 ((b : Nat) : Int), .pointer (some ⟨g3, 0, none⟩), .int .i64 (((a + b) / 2 : Nat) : Int), .int .i64 (((((a + b) / 2) + m) - s : Nat) : Int), .agg #[.func (.func g) #[] #[c1, c2], .func (.func sf) #[] #[s1, s2]], .int .i64 ((a : Nat) : Int), .int .i64 ((s : Nat) : Int), .int .i64 (((a + b) / 2 : Nat) : Int)] (.cons (show Ld Try.prog w422 164 ⟨g3, 0, none⟩ (.agg #[.func (.func g) #[] #[c1, c2], .func (.func sf) #[] #[s1, s2]]) from Ld.rowN (cs := [.func (.func g) #[] #[c1, c2], .func (.func sf) #[] #[s1, s2]]) hp423.get0 (by kernel_rfl)) .nil) (by kernel_rfl) (fun b428 => ?_)
              have hp431 := hp423.pull1
              refine OPS.cons (opStep.call (some 163) [.agg #[.func (.func g) #[] #[c1, c2], .func (.func sf) #[] #[s1, s2]], .int .i64 ((a : Nat) : Int), .int .i64 ((s : Nat) : Int), .int .i64 (((a + b) / 2 : Nat) : Int)] (by kernel_rfl) (ih (((a + b) / 2) - a) (by omega) _ (hless.app _) (hswap.app _) a s ((a + b) / 2) l _ rfl (by omega) (by omega) (by omega) (show List.Perm l l0 from by first | assumption | exact hql) (mid_rot hcm hmid hu1 hu2 hx (rot_none (by omega) (by omega) (by omega))).u1 (mid_rot hcm hmid hu1 hu2 hx (rot_none (by omega) (by omega) (by omega))).u2 (mid_rot hcm hmid hu1 hu2 hx (rot_none (by omega) (by omega) (by omega))).x1 hp431) ?_)
              rintro _ w432 ⟨rfl, q434, hq435, hp433⟩
              refine ⟨_, rfl, ?_⟩
              refine OPS.nil ?_
              refine thn_n ?_
              refine WP.cut (fun e445 w446 => ∃ (x443 : Bool), (True) ∧ Bp x443 (((((a + b) / 2 : Nat) : Int) < (((((a + b) / 2) + m) - s : Nat) : Int)) ∧ ((((((a + b) / 2) + m) - s : Nat) : Int) < ((b : Nat) : Int))) ∧ List.map e445 [3, 4, 16, 22, 171] = [.int .i64 ((b : Nat) : Int), .pointer (some ⟨g3, 0, none⟩), .int .i64 (((a + b) / 2 : Nat) : Int), .int .i64 (((((a + b) / 2) + m) - s : Nat) : Int), .bool x443] ∧ Hp w0 Non (Res.own 3 1 (.slice sa sn sc) sn (List.flatMap (fun (y : Int) => [Go.Value.int .i64 y]) q434) :: Res.row g3 [.func (.func g) #[] #[c1, c2], .func (.func sf) #[] #[s1, s2]] 164 :: L) w446) ?_ ?_
              · refine WP.region _ rfl (by kernel_rfl) ?_
                refine OPS.batch 4 {} [] [3, 4, 16, 22, 167] [.int .i64 ((b : Nat) : Int), .pointer (some ⟨g3, 0, none⟩), .int .i64 (((a + b) / 2 : Nat) : Int), .int .i64 (((((a + b) / 2) + m) - s : Nat) : Int), .bool (decide ((((a + b) / 2 : Nat) : Int) < (((((a + b) / 2) + m) - s : Nat) : Int)))] .nil (by kernel_rfl) (fun b437 => ?_)
                by_cases h438 : (((a + b) / 2 : Nat) : Int) < (((((a + b) / 2) + m) - s : Nat) : Int)
                · refine OPS.batch 0 {} [] [3, 4, 16, 22, 167] [.int .i64 ((b : Nat) : Int), .pointer (some ⟨g3, 0, none⟩), .int .i64 (((a + b) / 2 : Nat) : Int), .int .i64 (((((a + b) / 2) + m) - s : Nat) : Int), .bool (decide ((((a + b) / 2 : Nat) : Int) < (((((a + b) / 2) + m) - s : Nat) : Int)))] .nil (by kernel_rfl) (fun b439 => ?_)
                  refine OPS.re [.int .i64 ((b : Nat) : Int), .pointer (some ⟨g3, 0, none⟩), .int .i64 (((a + b) / 2 : Nat) : Int), .int .i64 (((((a + b) / 2) + m) - s : Nat) : Int), .bool true] (by rw [show (decide ((((a + b) / 2 : Nat) : Int) < (((((a + b) / 2) + m) - s : Nat) : Int))) = true from Bp.dec.tt h438]) ?_
                  refine OPS.batch 4 { wraps := [171] } [] [3, 4, 16, 22, 171] [.int .i64 ((b : Nat) : Int), .pointer (some ⟨g3, 0, none⟩), .int .i64 (((a + b) / 2 : Nat) : Int), .int .i64 (((((a + b) / 2) + m) - s : Nat) : Int), .bool (decide ((((((a + b) / 2) + m) - s : Nat) : Int) < ((b : Nat) : Int)))] .nil (by kernel_rfl) (fun b440 => ?_)
                  refine OPS.nil ?_
                  refine thn_n ?_
                  exact ⟨decide ((((((a + b) / 2) + m) - s : Nat) : Int) < ((b : Nat) : Int)), trivial, Bp.of Bp.dec (by first | (simp only [h438, iff_false, false_iff, iff_true, true_iff, Classical.not_not, and_true, true_and, and_false, false_and, or_true, true_or, or_false, false_or, not_true_eq_false, not_false_eq_true, and_self, or_self, iff_self]; done) | (simp [h438]; done) | simp_all), by kernel_rfl, hp433⟩
                · refine OPS.batch 0 {} [] [3, 4, 16, 22, 167] [.int .i64 ((b : Nat) : Int), .pointer (some ⟨g3, 0, none⟩), .int .i64 (((a + b) / 2 : Nat) : Int), .int .i64 (((((a + b) / 2) + m) - s : Nat) : Int), .bool (decide ((((a + b) / 2 : Nat) : Int) < (((((a + b) / 2) + m) - s : Nat) : Int)))] .nil (by kernel_rfl) (fun b441 => ?_)
                  refine OPS.re [.int .i64 ((b : Nat) : Int), .pointer (some ⟨g3, 0, none⟩), .int .i64 (((a + b) / 2 : Nat) : Int), .int .i64 (((((a + b) / 2) + m) - s : Nat) : Int), .bool false] (by rw [show (decide ((((a + b) / 2 : Nat) : Int) < (((((a + b) / 2) + m) - s : Nat) : Int))) = false from Bp.dec.ff h438]) ?_
                  refine OPS.batch 4 { wraps := [171] } [] [3, 4, 16, 22, 171] [.int .i64 ((b : Nat) : Int), .pointer (some ⟨g3, 0, none⟩), .int .i64 (((a + b) / 2 : Nat) : Int), .int .i64 (((((a + b) / 2) + m) - s : Nat) : Int), .bool false] .nil (by kernel_rfl) (fun b442 => ?_)
                  refine OPS.nil ?_
                  refine thn_n ?_
                  exact ⟨false, trivial, Bp.of Bp.f (by first | (simp only [h438, iff_false, false_iff, iff_true, true_iff, Classical.not_not, and_true, true_and, and_false, false_and, or_true, true_or, or_false, false_or, not_true_eq_false, not_false_eq_true, and_self, or_self, iff_self]; done) | (simp [h438]; done) | simp_all), by kernel_rfl, hp433⟩
              rintro e445 w446 ⟨x443, hd448, hb444, hE449, hp447⟩
              obtain ⟨b450, rfl⟩ := toMk hE449
              clear hE449
              clear hd448
              refine WP.test (p := ((((a + b) / 2 : Nat) : Int) < (((((a + b) / 2) + m) - s : Nat) : Int)) ∧ ((((((a + b) / 2) + m) - s : Nat) : Int) < ((b : Nat) : Int))) rfl hb444 (fun h451 => ?_) (fun h451 => ?_)
              · refine WP.region _ rfl (by kernel_rfl) ?_
                refine OPS.batch 4 {} [.agg #[.func (.func g) #[] #[c1, c2], .func (.func sf) #[] #[s1, s2]]] [172, 173, 174, 175] [.agg #[.func (.func g) #[] #[c1, c2], .func (.func sf) #[] #[s1, s2]], .int .i64 (((a + b) / 2 : Nat) : Int), .int .i64 (((((a + b) / 2) + m) - s : Nat) : Int), .int .i64 ((b : Nat) : Int)] (.cons (show Ld Try.prog w446 164 ⟨g3, 0, none⟩ (.agg #[.func (.func g) #[] #[c1, c2], .func (.func sf) #[] #[s1, s2]]) from Ld.rowN (cs := [.func (.func g) #[] #[c1, c2], .func (.func sf) #[] #[s1, s2]]) hp447.get1 (by kernel_rfl)) .nil) (by kernel_rfl) (fun b452 => ?_)
                have hp455 := hp447.pull0
                refine OPS.cons (opStep.call (some 176) [.agg #[.func (.func g) #[] #[c1, c2], .func (.func sf) #[] #[s1, s2]], .int .i64 (((a + b) / 2 : Nat) : Int), .int .i64 (((((a + b) / 2) + m) - s : Nat) : Int), .int .i64 ((b : Nat) : Int)] (by kernel_rfl) (ih (b - ((a + b) / 2)) (by omega) _ (hless.app _) (hswap.app _) ((a + b) / 2) ((a + b) / 2 + m - s) b q434 _ rfl (by omega) (by omega) (by omega) (show List.Perm q434 l0 from by first | assumption | exact hql | exact hq435.1.perm.trans hp) ((mid_rot hcm hmid hu1 hu2 hx (rot_none (by omega) (by omega) (by omega))).u3.mv hq435.1 (by omega)) ((mid_rot hcm hmid hu1 hu2 hx (rot_none (by omega) (by omega) (by omega))).u4.mv hq435.1 (by omega)) ((mid_rot hcm hmid hu1 hu2 hx (rot_none (by omega) (by omega) (by omega))).x2.mv hq435.1) hp455) ?_)
                rintro _ w456 ⟨rfl, q458, hq459, hp457⟩
                refine ⟨_, rfl, ?_⟩
                refine OPS.nil ?_
                refine bodyQ.ofN ?_
                refine bodyQ.of _ rfl [] trivial ?_
                have hm2 := mid_rot hcm hmid hu1 hu2 hx (rot_none (by omega) (by omega) (by omega))
                have hmr := rot_mv (l := l) (a := a) (b := b) (s := s) (m := m) (e := ((a + b) / 2 + m - s)) (List.Perm.refl _) (rot_none (by omega) (by omega) (by omega)) (by omega)
                have hrl := hmr.len
                have hfin := mid_up (by omega) (by omega) hm2.all hq435.1 hq435.2 hq459.1 hq459.2
                exact ⟨rfl, _, ⟨hmr.trans hfin.2, hfin.1⟩, (hp457.sub (.cons_cons _ (.cons _ (.refl _))))⟩
              · refine WP.skip ?_
                refine bodyQ.ofN ?_
                refine bodyQ.of _ rfl [] trivial ?_
                have hm2 := mid_rot hcm hmid hu1 hu2 hx (rot_none (by omega) (by omega) (by omega))
                have hmr := rot_mv (l := l) (a := a) (b := b) (s := s) (m := m) (e := ((a + b) / 2 + m - s)) (List.Perm.refl _) (rot_none (by omega) (by omega) (by omega)) (by omega)
                have hrl := hmr.len
                have hfin := mid_up (by omega) (by omega) hm2.all hq435.1 hq435.2 (Mv.refl _ _ _) ((skip_up hm2.u3 hm2.u4 (by omega) (by omega)).mv hq435.1 (by omega))
                exact ⟨rfl, _, ⟨hmr.trans hfin.2, hfin.1⟩, (hp447.sub (.cons_cons _ (.cons _ (.refl _))))⟩
            · refine WP.skip ?_
              refine thn_n ?_
              refine WP.cut (fun e469 w470 => ∃ (x467 : Bool), (True) ∧ Bp x467 (((((a + b) / 2 : Nat) : Int) < (((((a + b) / 2) + m) - s : Nat) : Int)) ∧ ((((((a + b) / 2) + m) - s : Nat) : Int) < ((b : Nat) : Int))) ∧ List.map e469 [3, 4, 16, 22, 171] = [.int .i64 ((b : Nat) : Int), .pointer (some ⟨g3, 0, none⟩), .int .i64 (((a + b) / 2 : Nat) : Int), .int .i64 (((((a + b) / 2) + m) - s : Nat) : Int), .bool x467] ∧ Hp w0 Non (Res.row g3 [.func (.func g) #[] #[c1, c2], .func (.func sf) #[] #[s1, s2]] 164 :: Res.own 3 1 (.slice sa sn sc) sn (List.flatMap (fun (y : Int) => [Go.Value.int .i64 y]) l) :: L) w470) ?_ ?_
              · refine WP.region _ rfl (by kernel_rfl) ?_
                refine OPS.batch 4 {} [] [3, 4, 16, 22, 167] [.int .i64 ((b : Nat) : Int), .pointer (some ⟨g3, 0, none⟩), .int .i64 (((a + b) / 2 : Nat) : Int), .int .i64 (((((a + b) / 2) + m) - s : Nat) : Int), .bool (decide ((((a + b) / 2 : Nat) : Int) < (((((a + b) / 2) + m) - s : Nat) : Int)))] .nil (by kernel_rfl) (fun b461 => ?_)
                by_cases h462 : (((a + b) / 2 : Nat) : Int) < (((((a + b) / 2) + m) - s : Nat) : Int)
                · refine OPS.batch 0 {} [] [3, 4, 16, 22, 167] [.int .i64 ((b : Nat) : Int), .pointer (some ⟨g3, 0, none⟩), .int .i64 (((a + b) / 2 : Nat) : Int), .int .i64 (((((a + b) / 2) + m) - s : Nat) : Int), .bool (decide ((((a + b) / 2 : Nat) : Int) < (((((a + b) / 2) + m) - s : Nat) : Int)))] .nil (by kernel_rfl) (fun b463 => ?_)
                  refine OPS.re [.int .i64 ((b : Nat) : Int), .pointer (some ⟨g3, 0, none⟩), .int .i64 (((a + b) / 2 : Nat) : Int), .int .i64 (((((a + b) / 2) + m) - s : Nat) : Int), .bool true] (by rw [show (decide ((((a + b) / 2 : Nat) : Int) < (((((a + b) / 2) + m) - s : Nat) : Int))) = true from Bp.dec.tt h462]) ?_
                  refine OPS.batch 4 { wraps := [171] } [] [3, 4, 16, 22, 171] [.int .i64 ((b : Nat) : Int), .pointer (some ⟨g3, 0, none⟩), .int .i64 (((a + b) / 2 : Nat) : Int), .int .i64 (((((a + b) / 2) + m) - s : Nat) : Int), .bool (decide ((((((a + b) / 2) + m) - s : Nat) : Int) < ((b : Nat) : Int)))] .nil (by kernel_rfl) (fun b464 => ?_)
                  refine OPS.nil ?_
                  refine thn_n ?_
                  exact ⟨decide ((((((a + b) / 2) + m) - s : Nat) : Int) < ((b : Nat) : Int)), trivial, Bp.of Bp.dec (by first | (simp only [h462, iff_false, false_iff, iff_true, true_iff, Classical.not_not, and_true, true_and, and_false, false_and, or_true, true_or, or_false, false_or, not_true_eq_false, not_false_eq_true, and_self, or_self, iff_self]; done) | (simp [h462]; done) | simp_all), by kernel_rfl, hp423⟩
                · refine OPS.batch 0 {} [] [3, 4, 16, 22, 167] [.int .i64 ((b : Nat) : Int), .pointer (some ⟨g3, 0, none⟩), .int .i64 (((a + b) / 2 : Nat) : Int), .int .i64 (((((a + b) / 2) + m) - s : Nat) : Int), .bool (decide ((((a + b) / 2 : Nat) : Int) < (((((a + b) / 2) + m) - s : Nat) : Int)))] .nil (by kernel_rfl) (fun b465 => ?_)
                  refine OPS.re [.int .i64 ((b : Nat) : Int), .pointer (some ⟨g3, 0, none⟩), .int .i64 (((a + b) / 2 : Nat) : Int), .int .i64 (((((a + b) / 2) + m) - s : Nat) : Int), .bool false] (by rw [show (decide ((((a + b) / 2 : Nat) : Int) < (((((a + b) / 2) + m) - s : Nat) : Int))) = false from Bp.dec.ff h462]) ?_
                  refine OPS.batch 4 { wraps := [171] } [] [3, 4, 16, 22, 171] [.int .i64 ((b : Nat) : Int), .pointer (some ⟨g3, 0, none⟩), .int .i64 (((a + b) / 2 : Nat) : Int), .int .i64 (((((a + b) / 2) + m) - s : Nat) : Int), .bool false] .nil (by kernel_rfl) (fun b466 => ?_)
                  refine OPS.nil ?_
                  refine thn_n ?_
                  exact ⟨false, trivial, Bp.of Bp.f (by first | (simp only [h462, iff_false, false_iff, iff_true, true_iff, Classical.not_not, and_true, true_and, and_false, false_and, or_true, true_or, or_false, false_or, not_true_eq_false, not_false_eq_true, and_self, or_self, iff_self]; done) | (simp [h462]; done) | simp_all), by kernel_rfl, hp423⟩
              rintro e469 w470 ⟨x467, hd472, hb468, hE473, hp471⟩
              obtain ⟨b474, rfl⟩ := toMk hE473
              clear hE473
              clear hd472
              refine WP.test (p := ((((a + b) / 2 : Nat) : Int) < (((((a + b) / 2) + m) - s : Nat) : Int)) ∧ ((((((a + b) / 2) + m) - s : Nat) : Int) < ((b : Nat) : Int))) rfl hb468 (fun h475 => ?_) (fun h475 => ?_)
              · refine WP.region _ rfl (by kernel_rfl) ?_
                refine OPS.batch 4 {} [.agg #[.func (.func g) #[] #[c1, c2], .func (.func sf) #[] #[s1, s2]]] [172, 173, 174, 175] [.agg #[.func (.func g) #[] #[c1, c2], .func (.func sf) #[] #[s1, s2]], .int .i64 (((a + b) / 2 : Nat) : Int), .int .i64 (((((a + b) / 2) + m) - s : Nat) : Int), .int .i64 ((b : Nat) : Int)] (.cons (show Ld Try.prog w470 164 ⟨g3, 0, none⟩ (.agg #[.func (.func g) #[] #[c1, c2], .func (.func sf) #[] #[s1, s2]]) from Ld.rowN (cs := [.func (.func g) #[] #[c1, c2], .func (.func sf) #[] #[s1, s2]]) hp471.get0 (by kernel_rfl)) .nil) (by kernel_rfl) (fun b476 => ?_)
                have hp479 := hp471.pull1
                refine OPS.cons (opStep.call (some 176) [.agg #[.func (.func g) #[] #[c1, c2], .func (.func sf) #[] #[s1, s2]], .int .i64 (((a + b) / 2 : Nat) : Int), .int .i64 (((((a + b) / 2) + m) - s : Nat) : Int), .int .i64 ((b : Nat) : Int)] (by kernel_rfl) (ih (b - ((a + b) / 2)) (by omega) _ (hless.app _) (hswap.app _) ((a + b) / 2) ((a + b) / 2 + m - s) b l _ rfl (by omega) (by omega) (by omega) (show List.Perm l l0 from by first | assumption | exact hql) (mid_rot hcm hmid hu1 hu2 hx (rot_none (by omega) (by omega) (by omega))).u3 (mid_rot hcm hmid hu1 hu2 hx (rot_none (by omega) (by omega) (by omega))).u4 (mid_rot hcm hmid hu1 hu2 hx (rot_none (by omega) (by omega) (by omega))).x2 hp479) ?_)
                rintro _ w480 ⟨rfl, q482, hq483, hp481⟩
                refine ⟨_, rfl, ?_⟩
                refine OPS.nil ?_
                refine bodyQ.ofN ?_
                refine bodyQ.of _ rfl [] trivial ?_
                have hm2 := mid_rot hcm hmid hu1 hu2 hx (rot_none (by omega) (by omega) (by omega))
                have hmr := rot_mv (l := l) (a := a) (b := b) (s := s) (m := m) (e := ((a + b) / 2 + m - s)) (List.Perm.refl _) (rot_none (by omega) (by omega) (by omega)) (by omega)
                have hrl := hmr.len
                have hfin := mid_up (by omega) (by omega) hm2.all (Mv.refl _ _ _) (skip_up hm2.u1 hm2.u2 (by omega) (by omega)) hq483.1 hq483.2
                exact ⟨rfl, _, ⟨hmr.trans hfin.2, hfin.1⟩, (hp481.sub (.cons_cons _ (.cons _ (.refl _))))⟩
              · refine WP.skip ?_
                refine bodyQ.ofN ?_
                refine bodyQ.of _ rfl [] trivial ?_
                have hm2 := mid_rot hcm hmid hu1 hu2 hx (rot_none (by omega) (by omega) (by omega))
                have hmr := rot_mv (l := l) (a := a) (b := b) (s := s) (m := m) (e := ((a + b) / 2 + m - s)) (List.Perm.refl _) (rot_none (by omega) (by omega) (by omega)) (by omega)
                have hrl := hmr.len
                have hfin := mid_up (by omega) (by omega) hm2.all (Mv.refl _ _ _) (skip_up hm2.u1 hm2.u2 (by omega) (by omega)) (Mv.refl _ _ _) (skip_up hm2.u3 hm2.u4 (by omega) (by omega))
                exact ⟨rfl, _, ⟨hmr.trans hfin.2, hfin.1⟩, (hp471.sub (.cons _ (.cons_cons _ (.refl _))))⟩

theorem st_sym (w0 : World) (g sf : FuncId) (c1 c2 s1 s2 : Go.Value) (sa : Option Addr) (sn sc : Nat) (l0 : List Int) (lt R : Int → Int → Prop) (hcm : Cm l0 lt R) (hn0 : l0.length = sn) (hnb : sn ≤ 8796093022207) (d : Nat) : SymOk w0 g sf c1 c2 s1 s2 sa sn sc l0 lt R hcm hn0 hnb d := Nat.strongRecOn d fun d ih => fun L hless hswap a m b l w hd h1 h2 h3 hp hu1 hu2 hx hp0 => sym_step w0 g sf c1 c2 s1 s2 sa sn sc l0 lt R hcm hn0 hnb d ih L hless hswap a m b l w hd h1 h2 h3 hp hu1 hu2 hx hp0
end Go.Proofs.Ytdahgdkadfdkeaa.K
