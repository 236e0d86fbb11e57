/- The walks of PlayC: what each function computes. -/
import Derived.Test.YthdkbbpiaeaojaaProg
import Derived.Test.YthdkbbpiaeaojaaCoreO
import Derived.Test.YthdkbbpiaeaojaaPlayB
namespace Go.Proofs.Ythdkbbpiaeaojaa.K
open Go Go.Proofs Go.RowKit
set_option linter.unusedVariables false
set_option linter.unusedSimpArgs false
set_option maxRecDepth 20000
set_option maxHeartbeats 4000000

theorem q_And_eq (w0 : World) (L : List Res) (b bo : Nat) (c c2 : GConfig) (m o : Nat) (w : World) (hok : okCfg c) (he : c2 = c) (hp0 : Hp w0 Non (Res.row b [.int .i64 c.N, .int .i64 c.K, .int .i64 c.Delta, .int .u64 ((wd m 0 : Nat) : Int), .int .u64 ((wd m 1 : Nat) : Int), .int .u64 ((wd m 2 : Nat) : Int), .int .u64 ((wd m 3 : Nat) : Int)] 133 :: Res.row bo [.int .i64 c2.N, .int .i64 c2.K, .int .i64 c2.Delta, .int .u64 ((wd o 0 : Nat) : Int), .int .u64 ((wd o 1 : Nat) : Int), .int .u64 ((wd o 2 : Nat) : Int), .int .u64 ((wd o 3 : Nat) : Int)] 133 :: L) w) : Calls Try.prog 57 #[.pointer (some ⟨b, 0, none⟩), .pointer (some ⟨bo, 0, none⟩)] w (fun r_ w' => ∃ b', r_ = .returned (.tuple #[.pointer (some ⟨b', 0, none⟩), .int .i64 0]) ∧ Hp w0 Non (Res.row b' [.int .i64 c.N, .int .i64 c.K, .int .i64 c.Delta, .int .u64 ((wd (m &&& o) 0 : Nat) : Int), .int .u64 ((wd (m &&& o) 1 : Nat) : Int), .int .u64 ((wd (m &&& o) 2 : Nat) : Int), .int .u64 ((wd (m &&& o) 3 : Nat) : Int)] 133 :: Res.row b [.int .i64 c.N, .int .i64 c.K, .int .i64 c.Delta, .int .u64 ((wd m 0 : Nat) : Int), .int .u64 ((wd m 1 : Nat) : Int), .int .u64 ((wd m 2 : Nat) : Int), .int .u64 ((wd m 3 : Nat) : Int)] 133 :: Res.row bo [.int .i64 c2.N, .int .i64 c2.K, .int .i64 c2.Delta, .int .u64 ((wd o 0 : Nat) : Int), .int .u64 ((wd o 1 : Nat) : Int), .int .u64 ((wd o 2 : Nat) : Int), .int .u64 ((wd o 3 : Nat) : Int)] 133 :: L) w') := by
  subst he
  exact q_And w0 L b bo c2 m o w hok hp0

theorem r_And_eq (w0 : World) (L : List Res) (q : Nat) (c : GConfig) (m : Nat) (ys : List Int) (a : Option Addr) (n cp : Nat) (qo : Nat) (c2 : GConfig) (o : Nat) (zs : List Int) (b : Option Addr) (z cz : Nat) (w : World) (hok : okCfg c) (hrel : Rel c m ys) (he : c2 = c) (hrel2 : Rel c o zs) (hp0 : Hp w0 Non (Res.row q [.int .i64 c.N, .int .i64 c.K, .int .i64 c.Delta, .slice a n cp] 163 :: Res.own 3 1 (.slice a n cp) n (List.flatMap (fun (y : Int) => [Go.Value.int .i64 y]) ys) :: Res.row qo [.int .i64 c2.N, .int .i64 c2.K, .int .i64 c2.Delta, .slice b z cz] 163 :: Res.own 3 1 (.slice b z cz) z (List.flatMap (fun (y : Int) => [Go.Value.int .i64 y]) zs) :: L) w) : Calls Try.prog 91 #[.pointer (some ⟨q, 0, none⟩), .pointer (some ⟨qo, 0, none⟩)] w (fun r_ w' => ∃ (q' : Nat) (a' : Option Addr) (n' cp' : Nat), r_ = .returned (.tuple #[.pointer (some ⟨q', 0, none⟩), .int .i64 0]) ∧ Hp w0 Non (Res.row q' [.int .i64 c.N, .int .i64 c.K, .int .i64 c.Delta, .slice a' n' cp'] 163 :: Res.own 3 1 (.slice a' n' cp') n' (List.flatMap (fun (y : Int) => [Go.Value.int .i64 y]) (ys.filter fun y => o.testBit y.toNat)) :: Res.row q [.int .i64 c.N, .int .i64 c.K, .int .i64 c.Delta, .slice a n cp] 163 :: Res.own 3 1 (.slice a n cp) n (List.flatMap (fun (y : Int) => [Go.Value.int .i64 y]) ys) :: Res.row qo [.int .i64 c2.N, .int .i64 c2.K, .int .i64 c2.Delta, .slice b z cz] 163 :: Res.own 3 1 (.slice b z cz) z (List.flatMap (fun (y : Int) => [Go.Value.int .i64 y]) zs) :: L) w') := by
  subst he
  exact r_And w0 L q c2 m ys a n cp w hok hrel qo o zs b z cz hrel2 hp0

structure Ent where
  p : Nat
  q : Nat
  c : GConfig
  m : Nat
  ys : List Int
  a : Option Addr
  n : Nat
  cp : Nat
instance : Inhabited Ent := ⟨⟨0, 0, ⟨0, 0, 0⟩, 0, [], none, 0, 0⟩⟩
abbrev Ent.P (e : Ent) : Res := Res.row e.p [.int .i64 e.c.N, .int .i64 e.c.K, .int .i64 e.c.Delta, .int .u64 ((wd e.m 0 : Nat) : Int), .int .u64 ((wd e.m 1 : Nat) : Int), .int .u64 ((wd e.m 2 : Nat) : Int), .int .u64 ((wd e.m 3 : Nat) : Int)] 133
abbrev Ent.Q (e : Ent) : Res := Res.row e.q [.int .i64 e.c.N, .int .i64 e.c.K, .int .i64 e.c.Delta, .slice e.a e.n e.cp] 163
abbrev Ent.Y (e : Ent) : Res := Res.own 3 1 (.slice e.a e.n e.cp) e.n (List.flatMap (fun (y : Int) => [Go.Value.int .i64 y]) e.ys)
def Ent.res (e : Ent) : List Res := [e.P, e.Q, e.Y]
def Res.ents (es : List Ent) : Res := Res.all (es.flatMap Ent.res)
def Ent.ok (e : Ent) : Prop := okCfg e.c ∧ Rel e.c e.m e.ys
def entS (e : Ent) : List Go.Value := [.pointer (some ⟨e.p, 0, none⟩)]
def entR (e : Ent) : List Go.Value := [.pointer (some ⟨e.q, 0, none⟩)]
def cfgEq (c2 c : GConfig) : Prop := c2.N = c.N ∧ c2.K = c.K ∧ c2.Delta = c.Delta
theorem cfgEq_eq {c2 c : GConfig} (h : cfgEq c2 c) : c2 = c := by
  cases c2; cases c; obtain ⟨h1, h2, h3⟩ := h; simp at h1 h2 h3; simp [h1, h2, h3]
section
variable {w w0 : World} {M : Nat → Prop} {L : List Res} {e : Ent} {es es' : List Ent}
theorem Hp.entPop (h : Hp w0 M (Res.ents (e :: es) :: L) w) : Hp w0 M (e.P :: e.Q :: e.Y :: Res.ents es :: L) w := by
  have h1 : Hp w0 M (Res.all (e.P :: e.Q :: e.Y :: es.flatMap Ent.res) :: L) w := h
  exact h1.allPop.pull1.allPop.pull1.allPop.pull2.pull3
theorem Hp.entCons (h : Hp w0 M (e.P :: e.Q :: e.Y :: Res.ents es :: L) w) : Hp w0 M (Res.ents (e :: es) :: L) w := by
  have h1 : Hp w0 M (e.P :: e.Q :: e.Y :: Res.all (es.flatMap Ent.res) :: L) w := h
  exact h1.pull3.pull3.allCons.pull2.allCons.pull1.allCons
theorem Hp.entsPerm (hp : es.Perm es') (h : Hp w0 M (Res.ents es :: L) w) : Hp w0 M (Res.ents es' :: L) w := Hp.allPerm (hp.flatMap_right _) h
theorem Hp.entAt {j : Nat} (hj : j < es.length) (h : Hp w0 M (Res.ents es :: L) w) : Hp w0 M ((es[j]!).P :: (es[j]!).Q :: (es[j]!).Y :: Res.ents (es.eraseIdx j) :: L) w := (h.entsPerm (erase_perm hj)).entPop
theorem Hp.entPut {j : Nat} (hj : j < es.length) (h : Hp w0 M (e.P :: e.Q :: e.Y :: Res.ents (es.eraseIdx j) :: L) w) : Hp w0 M (Res.ents (es.set j e) :: L) w := h.entCons.entsPerm (set_perm hj)
theorem Hp.entBack {j : Nat} (hj : j < es.length) (h : Hp w0 M ((es[j]!).P :: (es[j]!).Q :: (es[j]!).Y :: Res.ents (es.eraseIdx j) :: L) w) : Hp w0 M (Res.ents es :: L) w := h.entCons.entsPerm (erase_perm hj).symm
theorem erase_get : ∀ {es : List Ent} {i j : Nat}, i < es.length → j < es.length → ¬ i = j → ∃ k, k < (es.eraseIdx i).length ∧ (es.eraseIdx i)[k]! = es[j]! := by
  intro es i j hi hj hn
  have hl : (es.eraseIdx i).length = es.length - 1 := by rw [List.length_eraseIdx, if_pos hi]
  by_cases h : j < i
  · refine ⟨j, by omega, ?_⟩
    rw [List.getElem!_eq_getElem?_getD, List.getElem!_eq_getElem?_getD, List.getElem?_eraseIdx, if_pos h]
  · refine ⟨j - 1, by omega, ?_⟩
    rw [List.getElem!_eq_getElem?_getD, List.getElem!_eq_getElem?_getD, List.getElem?_eraseIdx, if_neg (by omega), show j - 1 + 1 = j from by omega]
end
section
variable {w w0 : World} {L : List Res} {es : List Ent} {i j : Nat} (hok : ∀ i, i < es.length → Ent.ok es[i]!) (hi : i < es.length) (hj : j < es.length) (h : Hp w0 Non (Res.ents es :: L) w)
include hok hj h
theorem same_at : Calls Try.prog 51 #[.pointer (some ⟨(es[j]!).p, 0, none⟩), .pointer (some ⟨(es[j]!).q, 0, none⟩)] w (fun x w' => x = .returned (.bool true) ∧ Hp w0 Non (Res.ents es :: L) w') := by
  refine (same_ok w0 (Res.ents (es.eraseIdx j) :: L) _ _ _ _ _ _ _ _ w (hok j hj).1 (hok j hj).2 (h.entAt hj)).mono ?_
  rintro _ w' ⟨rfl, h'⟩
  exact ⟨rfl, h'.entBack hj⟩
theorem qHas_at (x : Int) : Calls Try.prog 37 #[.pointer (some ⟨(es[j]!).p, 0, none⟩), .int .i64 x] w (fun r w' => ∃ f, r = .returned (.bool f) ∧ Bp f (inN (es[j]!).c x ∧ (es[j]!).m.testBit x.toNat = true) ∧ Hp w0 Non (Res.ents es :: L) w') := by
  refine (q_Has w0 _ _ _ _ w (hok j hj).1 x (h.entAt hj)).mono ?_
  rintro _ w' ⟨f, rfl, hb, h'⟩
  exact ⟨f, rfl, hb, h'.entBack hj⟩
theorem rHas_at (x : Int) : Calls Try.prog 90 #[.pointer (some ⟨(es[j]!).q, 0, none⟩), .int .i64 x] w (fun r w' => ∃ f, r = .returned (.bool f) ∧ Bp f (inN (es[j]!).c x ∧ (es[j]!).m.testBit x.toNat = true) ∧ Hp w0 Non (Res.ents es :: L) w') := by
  refine (r_Has w0 _ _ _ _ _ _ _ _ w (hok j hj).1 (hok j hj).2 x (h.entAt hj).pull2.pull2).mono ?_
  rintro _ w' ⟨f, rfl, hb, h'⟩
  exact ⟨f, rfl, hb, h'.pull2.entBack hj⟩
theorem qAdd_at (x : Int) : Calls Try.prog 36 #[.pointer (some ⟨(es[j]!).p, 0, none⟩), .int .i64 x] w (fun r w' => ∃ f, r = .returned (.tuple #[.bool f, .int .i64 (qErr (es[j]!).c x)]) ∧ Bp f (inN (es[j]!).c x ∧ (es[j]!).m.testBit x.toNat = false) ∧ Hp w0 Non (Res.ents (es.set j { es[j]! with m := qAdd (es[j]!).c (es[j]!).m x }) :: L) w') := by
  refine (q_Add w0 _ _ _ _ w (hok j hj).1 x (h.entAt hj)).mono ?_
  rintro _ w' ⟨f, rfl, hb, h'⟩
  exact ⟨f, rfl, hb, Hp.entPut (e := { es[j]! with m := qAdd (es[j]!).c (es[j]!).m x }) hj h'⟩
theorem qCopy_at : Calls Try.prog 92 #[.pointer (some ⟨(es[j]!).p, 0, none⟩)] w (fun r w' => ∃ b', r = .returned (.pointer (some ⟨b', 0, none⟩)) ∧ Hp w0 Non (Res.row b' [.int .i64 (((es[j]!).c).N), .int .i64 (((es[j]!).c).K), .int .i64 (((es[j]!).c).Delta), .int .u64 ((wd ((es[j]!).m) 0 : Nat) : Int), .int .u64 ((wd ((es[j]!).m) 1 : Nat) : Int), .int .u64 ((wd ((es[j]!).m) 2 : Nat) : Int), .int .u64 ((wd ((es[j]!).m) 3 : Nat) : Int)] 133 :: Res.ents es :: L) w') := by
  refine (q_Copy w0 _ _ _ _ w (hok j hj).1 (h.entAt hj)).mono ?_
  rintro _ w' ⟨b', rfl, h'⟩
  exact ⟨b', rfl, (Hp.entBack hj (h'.pull4.pull4.pull4.pull4)).pull1⟩
theorem rCopy_at : Calls Try.prog 93 #[.pointer (some ⟨(es[j]!).q, 0, none⟩)] w (fun r w' => ∃ (q' : Nat) (a' : Option Addr) (n' cp' : Nat), r = .returned (.pointer (some ⟨q', 0, none⟩)) ∧ Hp w0 Non (Res.row q' [.int .i64 (((es[j]!).c).N), .int .i64 (((es[j]!).c).K), .int .i64 (((es[j]!).c).Delta), .slice a' n' cp'] 163 :: Res.own 3 1 (.slice a' n' cp') n' (List.flatMap (fun (y : Int) => [Go.Value.int .i64 y]) ((es[j]!).ys)) :: Res.ents es :: L) w') := by
  refine (r_Copy w0 _ _ _ _ _ _ _ _ w (hok j hj).1 (hok j hj).2 (h.entAt hj).pull2.pull2).mono ?_
  rintro _ w' ⟨q', a', n', cp', rfl, h'⟩
  exact ⟨q', a', n', cp', rfl, (Hp.entBack hj (h'.pull5.pull4.pull4.pull5)).pull2.pull2⟩
theorem qAndN_at : Calls Try.prog 57 #[.pointer (some ⟨(es[j]!).p, 0, none⟩), .pointer none] w (fun r w' => r = .returned (.tuple #[.pointer none, .int .i64 1]) ∧ Hp w0 Non (Res.ents es :: L) w') := by
  refine (q_And_onil w0 _ _ _ _ w (hok j hj).1 (h.entAt hj)).mono ?_
  rintro _ w' ⟨rfl, h'⟩
  exact ⟨rfl, h'.entBack hj⟩
theorem rAndN_at : Calls Try.prog 91 #[.pointer (some ⟨(es[j]!).q, 0, none⟩), .pointer none] w (fun r w' => r = .returned (.tuple #[.pointer none, .int .i64 1]) ∧ Hp w0 Non (Res.ents es :: L) w') := by
  refine (r_And_onil w0 _ _ _ _ _ _ _ _ w (hok j hj).1 (hok j hj).2 (h.entAt hj).pull2.pull2).mono ?_
  rintro _ w' ⟨rfl, h'⟩
  exact ⟨rfl, h'.pull2.entBack hj⟩
include hi
theorem qAnd_at : Calls Try.prog 57 #[.pointer (some ⟨(es[i]!).p, 0, none⟩), .pointer (some ⟨(es[j]!).p, 0, none⟩)] w (fun r w' =>
    (cfgEq (es[j]!).c (es[i]!).c ∧ ∃ b', r = .returned (.tuple #[.pointer (some ⟨b', 0, none⟩), .int .i64 0]) ∧ Hp w0 Non (Res.row b' [.int .i64 (((es[i]!).c).N), .int .i64 (((es[i]!).c).K), .int .i64 (((es[i]!).c).Delta), .int .u64 ((wd ((es[i]!).m &&& (es[j]!).m) 0 : Nat) : Int), .int .u64 ((wd ((es[i]!).m &&& (es[j]!).m) 1 : Nat) : Int), .int .u64 ((wd ((es[i]!).m &&& (es[j]!).m) 2 : Nat) : Int), .int .u64 ((wd ((es[i]!).m &&& (es[j]!).m) 3 : Nat) : Int)] 133 :: Res.ents es :: L) w') ∨
    (¬ cfgEq (es[j]!).c (es[i]!).c ∧ r = .returned (.tuple #[.pointer none, .int .i64 1]) ∧ Hp w0 Non (Res.ents es :: L) w')) := by
  by_cases hij : i = j
  · subst hij
    refine (q_AndSelf w0 _ _ _ _ w (hok i hi).1 (h.entAt hi)).mono ?_
    rintro _ w' ⟨b', rfl, h'⟩
    exact .inl ⟨⟨rfl, rfl, rfl⟩, b', rfl, (Hp.entBack hi (h'.pull4.pull4.pull4.pull4)).pull1⟩
  · obtain ⟨k, hk, he⟩ := erase_get hi hj hij
    have h2 := (h.entAt hi).pull3.entAt hk
    rw [he] at h2
    have hback : ∀ {w' : World} {L' : List Res}, Hp w0 Non ((es[j]!).P :: (es[j]!).Q :: (es[j]!).Y :: Res.ents ((es.eraseIdx i).eraseIdx k) :: L') w' → Hp w0 Non (Res.ents (es.eraseIdx i) :: L') w' := by
      intro w' L' hh
      rw [← he] at hh
      exact hh.entBack hk
    by_cases hc : cfgEq (es[j]!).c (es[i]!).c
    · refine (q_And_eq w0 _ _ _ _ _ _ _ w (hok i hi).1 (cfgEq_eq hc) h2.pull4).mono ?_
      rintro _ w' ⟨b', rfl, h'⟩
      exact .inl ⟨hc, b', rfl, (Hp.entBack hi ((hback h'.pull5.pull5.pull5.pull5).pull4.pull4.pull4)).pull1⟩
    · refine (q_And_ne w0 _ _ _ _ _ _ _ w (hok i hi).1 hc h2.pull4).mono ?_
      rintro _ w' ⟨rfl, h'⟩
      exact .inr ⟨hc, rfl, Hp.entBack hi ((hback h'.pull4.pull4.pull4.pull4).pull3.pull3.pull3)⟩
theorem rAnd_at : Calls Try.prog 91 #[.pointer (some ⟨(es[i]!).q, 0, none⟩), .pointer (some ⟨(es[j]!).q, 0, none⟩)] w (fun r w' =>
    (cfgEq (es[j]!).c (es[i]!).c ∧ ∃ (q' : Nat) (a' : Option Addr) (n' cp' : Nat), r = .returned (.tuple #[.pointer (some ⟨q', 0, none⟩), .int .i64 0]) ∧ Hp w0 Non (Res.row q' [.int .i64 (((es[i]!).c).N), .int .i64 (((es[i]!).c).K), .int .i64 (((es[i]!).c).Delta), .slice a' n' cp'] 163 :: Res.own 3 1 (.slice a' n' cp') n' (List.flatMap (fun (y : Int) => [Go.Value.int .i64 y]) ((es[i]!).ys.filter fun y => (es[j]!).m.testBit y.toNat)) :: Res.ents es :: L) w') ∨
    (¬ cfgEq (es[j]!).c (es[i]!).c ∧ r = .returned (.tuple #[.pointer none, .int .i64 1]) ∧ Hp w0 Non (Res.ents es :: L) w')) := by
  by_cases hij : i = j
  · subst hij
    refine (r_AndSelf w0 _ _ _ _ _ _ _ _ w (hok i hi).1 (hok i hi).2 (h.entAt hi).pull2.pull2).mono ?_
    rintro _ w' ⟨q', a', n', cp', rfl, h'⟩
    exact .inl ⟨⟨rfl, rfl, rfl⟩, q', a', n', cp', rfl, (Hp.entBack hi (h'.pull5.pull4.pull4.pull5)).pull2.pull2⟩
  · obtain ⟨k, hk, he⟩ := erase_get hi hj hij
    have h2 := (h.entAt hi).pull3.entAt hk
    rw [he] at h2
    have hback : ∀ {w' : World} {L' : List Res}, Hp w0 Non ((es[j]!).P :: (es[j]!).Q :: (es[j]!).Y :: Res.ents ((es.eraseIdx i).eraseIdx k) :: L') w' → Hp w0 Non (Res.ents (es.eraseIdx i) :: L') w' := by
      intro w' L' hh
      rw [← he] at hh
      exact hh.entBack hk
    by_cases hc : cfgEq (es[j]!).c (es[i]!).c
    · refine (r_And_eq w0 _ _ _ _ _ _ _ _ _ _ _ _ _ _ _ w (hok i hi).1 (hok i hi).2 (cfgEq_eq hc) (by have := (hok j hj).2; rwa [cfgEq_eq hc] at this) h2.pull2.pull2.pull6.pull6).mono ?_
      rintro _ w' ⟨q', a', n', cp', rfl, h'⟩
      exact .inl ⟨hc, q', a', n', cp', rfl, (Hp.entBack hi ((hback h'.pull7.pull6.pull6.pull7).pull4.pull4.pull5)).pull2.pull2⟩
    · refine (r_And_ne w0 _ _ _ _ _ _ _ _ w (hok i hi).1 (hok i hi).2 _ _ 0 _ _ _ _ hc h2.pull2.pull2.pull6.pull6).mono ?_
      rintro _ w' ⟨rfl, h'⟩
      exact .inr ⟨hc, rfl, Hp.entBack hi ((hback h'.pull5.pull4.pull4.pull5).pull2.pull2.pull3)⟩
end
theorem rAdd_at {w w0 : World} {L : List Res} {es : List Ent} {j : Nat} {qq m0 : Nat} {c : GConfig} (hj : j < es.length) (hc0 : okCfg c) (hq : (es[j]!).q = qq) (hc : (es[j]!).c = c) (hrel : Rel c m0 (es[j]!).ys) (h : Hp w0 Non (Res.ents es :: L) w) (x : Int) :
    Calls Try.prog 89 #[.pointer (some ⟨qq, 0, none⟩), .int .i64 x] w (fun r w' => ∃ (f : Bool) (e' : Ent), r = .returned (.tuple #[.bool f, .int .i64 (qErr c x)]) ∧ Bp f (inN c x ∧ m0.testBit x.toNat = false) ∧ (Rel c (qAdd c m0 x) e'.ys ∧ e'.c = c ∧ e'.m = (es[j]!).m ∧ e'.p = (es[j]!).p ∧ e'.q = (es[j]!).q) ∧ Hp w0 Non (Res.ents (es.set j e') :: L) w') := by
  subst hq hc
  refine (r_Add w0 _ _ _ _ _ _ _ _ w hc0 hrel x (h.entAt hj).pull2.pull2).mono ?_
  rintro _ w' ⟨f, ys', a', n', cp', rfl, hb, hr, h'⟩
  exact ⟨f, { es[j]! with ys := ys', a := a', n := n', cp := cp' }, rfl, hb, ⟨hr, rfl, rfl, rfl, rfl⟩, Hp.entPut (e := { es[j]! with ys := ys', a := a', n := n', cp := cp' }) hj h'.pull2⟩

end Go.Proofs.Ythdkbbpiaeaojaa.K
