/- The rules by a thing's place in the list. Printed by a program of this repo. -/
import Derived.Test.YtbpedjefoajegaaDoorCoreS
namespace Go.Proofs.YtbpedjefoajegaaDoor.K
open Go Go.RowKit
section
variable {P : Program} {N : Nat} {ops : Array Oper} {Q : Post} {next : Env → World → Prop} {e : Env} {w w0 : World} {M : Nat → Prop} {ty : TypeId} {pos : String} {af : Array Edge} {d : Nat}
theorem Hp.get0 {s : Res} {B : List Res} (h : Hp w0 M (s :: B) w) : s.holds w := Hp.get (A := []) h
theorem Hp.lt0 {s : Res} {B : List Res} (h : Hp w0 M (s :: B) w) (b : Nat) (hb : s.foot b) : b < w.heap.size := Hp.lt (A := []) h b hb
theorem Hp.ge0 {s : Res} {B : List Res} (h : Hp w0 Non (s :: B) w) (b : Nat) (hb : s.foot b) : w0.heap.size ≤ b := Hp.ge (A := []) h b hb
theorem Hp.mod0 {s : Res} {B : List Res} {w' : World} (h : Hp w0 M (s :: B) w) (hf : Fram s.foot w w') (r' : Res) (hr : r'.holds w') (hn : ∀ b, r'.foot b → b < w'.heap.size ∧ (s.foot b ∨ w.heap.size ≤ b)) : Hp w0 M (r' :: B) w' := Hp.mod (A := []) h hf r' hr hn
theorem Hp.turn0 {s : Res} {B : List Res} (h : Hp w0 M (s :: B) w) (r' : Res) (hr : s.holds w → r'.holds w) (hn : ∀ b, r'.foot b → s.foot b) : Hp w0 M (r' :: B) w := Hp.turn (A := []) h r' hr hn
theorem opStep.store0 {T t : TypeId} {x y : Operand} {b o : Nat} {c : List Value} {B : List Res} (hp : Hp w0 M (Res.row b c t :: B) w) (hx : ev e x = .pointer (some ⟨b, o, none⟩)) (vs c' : List Value)
    (hc : ((ev e y).cells.toList, (P.info? T).map (·.size), decide (o + vs.length ≤ c.length), ow c o vs, vs.all (·.oneCell')) = (vs, some vs.length, true, c', true))
    (h : ∀ w', Hp w0 M (Res.row b c' t :: B) w' → next e w') :
    opStep P N ops Q ⟨none, .store T x y, ty, pos, af, none⟩ next e w := opStep.store (A := []) hp hx vs c' hc h
theorem opStep.append0 {T E ty2 : TypeId} {s x : Operand} {B : List Res} {sz n m c : Nat} {v : Value} {xs : List Value} {ad : Addr} (news : List Value) (hp : Hp w0 M (Res.own E sz v n xs :: B) w)
    (bytes : Nat) (hT : appInfo P T = some (E, sz, bytes))
    (hs : ev e s = v) (hx : ev e x = .slice (some ad) m c) (hl : news.length = m * sz) (hnews : ∀ j u, news[j]? = some u → w.cell? (ad.add j) = some u) (h1 : ∀ u ∈ news, u.oneCell' = true) (hsz : 0 < sz)
    (hb : (n + m) * bytes ≤ 140737488355328) (h63 : n + m ≤ 9223372036854775807)
    (h : ∀ a c' w', Hp w0 M (Res.own E sz (.slice a (n + m) c') (n + m) (xs ++ news) :: B) w' → (a = none ↔ v = .slice none 0 0 ∧ m = 0) → next (upd e d (.slice a (n + m) c')) w') :
    opStep P N ops Q ⟨some d, .call ⟨.builtin .append, #[s, x], #[T, T]⟩, ty2, pos, af, none⟩ next e w := by
  refine opStep.append (A := []) hp bytes hT hs hx hl hnews h1 hsz hb h63 ?_
  intro v' w' hp' hnil
  obtain ⟨a, c', rfl⟩ := own_slice (Hp.get (A := []) hp')
  refine h a c' w' hp' ?_
  constructor
  · rintro rfl
    exact hnil.1 (own_nil (Hp.get (A := []) hp'))
  · intro hh
    have := hnil.2 hh
    simp at this
    exact this.1
theorem Hp.pull0 {s : Res} {B : List Res} (h : Hp w0 M (s :: B) w) : Hp w0 M (s :: B) w := Hp.pull (A := []) h
theorem opStep.mapUpdate0 {κ ν : Type} {t : TypeId} {kf : κ → Value} {vf : ν → Value} [DecidableEq κ] {mt et : TypeId} {x y z : Operand} {b : Nat} {l : List (κ × ν)} {B : List Res} (K : KeyOk P t kf) (hm : P.underlying mt = some (.map t et)) (hp : Hp w0 M (Res.mp b kf vf l :: B) w) (k : κ) (v : ν)
    (hx : (ev e x, ev e y, ev e z) = (.map (some b), kf k, vf v)) (h : ∀ w', Hp w0 M (Res.mp b kf vf (mapPut l k v) :: B) w' → next e w') :
    opStep P N ops Q ⟨none, .mapUpdate mt x y z, ty, pos, af, none⟩ next e w := opStep.mapUpdate (A := []) K hm hp k v hx h
theorem opStep.storeOwn0 {T E : TypeId} {x y : Operand} {sz n c : Nat} {a : Option Addr} {xs : List Value} {B : List Res} (p : Nat) (hp : Hp w0 M (Res.own E sz (.slice a n c) n xs :: B) w) (hx : ev e x = .pointer (some ((adr a).add p))) (vs : List Value)
    (hc : ((ev e y).cells.toList, (P.info? T).map (·.size), vs.all (·.oneCell')) = (vs, some vs.length, true)) (h0 : 0 < vs.length) (hb : p + vs.length ≤ n * sz)
    (h : ∀ w', Hp w0 M (Res.own E sz (.slice a n c) n (ow xs p vs) :: B) w' → next e w') :
    opStep P N ops Q ⟨none, .store T x y, ty, pos, af, none⟩ next e w := opStep.storeOwn (A := []) p hp hx vs hc h0 hb h
theorem Hp.get1 {a0 : Res} {s : Res} {B : List Res} (h : Hp w0 M (a0 :: s :: B) w) : s.holds w := Hp.get (A := [a0]) h
theorem Hp.lt1 {a0 : Res} {s : Res} {B : List Res} (h : Hp w0 M (a0 :: s :: B) w) (b : Nat) (hb : s.foot b) : b < w.heap.size := Hp.lt (A := [a0]) h b hb
theorem Hp.ge1 {a0 : Res} {s : Res} {B : List Res} (h : Hp w0 Non (a0 :: s :: B) w) (b : Nat) (hb : s.foot b) : w0.heap.size ≤ b := Hp.ge (A := [a0]) h b hb
theorem Hp.mod1 {a0 : Res} {s : Res} {B : List Res} {w' : World} (h : Hp w0 M (a0 :: s :: B) w) (hf : Fram s.foot w w') (r' : Res) (hr : r'.holds w') (hn : ∀ b, r'.foot b → b < w'.heap.size ∧ (s.foot b ∨ w.heap.size ≤ b)) : Hp w0 M (a0 :: r' :: B) w' := Hp.mod (A := [a0]) h hf r' hr hn
theorem Hp.turn1 {a0 : Res} {s : Res} {B : List Res} (h : Hp w0 M (a0 :: s :: B) w) (r' : Res) (hr : s.holds w → r'.holds w) (hn : ∀ b, r'.foot b → s.foot b) : Hp w0 M (a0 :: r' :: B) w := Hp.turn (A := [a0]) h r' hr hn
theorem opStep.store1 {T t : TypeId} {x y : Operand} {b o : Nat} {c : List Value} {a0 : Res} {B : List Res} (hp : Hp w0 M (a0 :: Res.row b c t :: B) w) (hx : ev e x = .pointer (some ⟨b, o, none⟩)) (vs c' : List Value)
    (hc : ((ev e y).cells.toList, (P.info? T).map (·.size), decide (o + vs.length ≤ c.length), ow c o vs, vs.all (·.oneCell')) = (vs, some vs.length, true, c', true))
    (h : ∀ w', Hp w0 M (a0 :: Res.row b c' t :: B) w' → next e w') :
    opStep P N ops Q ⟨none, .store T x y, ty, pos, af, none⟩ next e w := opStep.store (A := [a0]) hp hx vs c' hc h
theorem opStep.append1 {T E ty2 : TypeId} {s x : Operand} {a0 : Res} {B : List Res} {sz n m c : Nat} {v : Value} {xs : List Value} {ad : Addr} (news : List Value) (hp : Hp w0 M (a0 :: Res.own E sz v n xs :: B) w)
    (bytes : Nat) (hT : appInfo P T = some (E, sz, bytes))
    (hs : ev e s = v) (hx : ev e x = .slice (some ad) m c) (hl : news.length = m * sz) (hnews : ∀ j u, news[j]? = some u → w.cell? (ad.add j) = some u) (h1 : ∀ u ∈ news, u.oneCell' = true) (hsz : 0 < sz)
    (hb : (n + m) * bytes ≤ 140737488355328) (h63 : n + m ≤ 9223372036854775807)
    (h : ∀ a c' w', Hp w0 M (a0 :: Res.own E sz (.slice a (n + m) c') (n + m) (xs ++ news) :: B) w' → (a = none ↔ v = .slice none 0 0 ∧ m = 0) → next (upd e d (.slice a (n + m) c')) w') :
    opStep P N ops Q ⟨some d, .call ⟨.builtin .append, #[s, x], #[T, T]⟩, ty2, pos, af, none⟩ next e w := by
  refine opStep.append (A := [a0]) hp bytes hT hs hx hl hnews h1 hsz hb h63 ?_
  intro v' w' hp' hnil
  obtain ⟨a, c', rfl⟩ := own_slice (Hp.get (A := [a0]) hp')
  refine h a c' w' hp' ?_
  constructor
  · rintro rfl
    exact hnil.1 (own_nil (Hp.get (A := [a0]) hp'))
  · intro hh
    have := hnil.2 hh
    simp at this
    exact this.1
theorem Hp.pull1 {a0 : Res} {s : Res} {B : List Res} (h : Hp w0 M (a0 :: s :: B) w) : Hp w0 M (s :: a0 :: B) w := Hp.pull (A := [a0]) h
theorem opStep.mapUpdate1 {κ ν : Type} {t : TypeId} {kf : κ → Value} {vf : ν → Value} [DecidableEq κ] {mt et : TypeId} {x y z : Operand} {b : Nat} {l : List (κ × ν)} {a0 : Res} {B : List Res} (K : KeyOk P t kf) (hm : P.underlying mt = some (.map t et)) (hp : Hp w0 M (a0 :: Res.mp b kf vf l :: B) w) (k : κ) (v : ν)
    (hx : (ev e x, ev e y, ev e z) = (.map (some b), kf k, vf v)) (h : ∀ w', Hp w0 M (a0 :: Res.mp b kf vf (mapPut l k v) :: B) w' → next e w') :
    opStep P N ops Q ⟨none, .mapUpdate mt x y z, ty, pos, af, none⟩ next e w := opStep.mapUpdate (A := [a0]) K hm hp k v hx h
theorem opStep.storeOwn1 {T E : TypeId} {x y : Operand} {sz n c : Nat} {a : Option Addr} {xs : List Value} {a0 : Res} {B : List Res} (p : Nat) (hp : Hp w0 M (a0 :: Res.own E sz (.slice a n c) n xs :: B) w) (hx : ev e x = .pointer (some ((adr a).add p))) (vs : List Value)
    (hc : ((ev e y).cells.toList, (P.info? T).map (·.size), vs.all (·.oneCell')) = (vs, some vs.length, true)) (h0 : 0 < vs.length) (hb : p + vs.length ≤ n * sz)
    (h : ∀ w', Hp w0 M (a0 :: Res.own E sz (.slice a n c) n (ow xs p vs) :: B) w' → next e w') :
    opStep P N ops Q ⟨none, .store T x y, ty, pos, af, none⟩ next e w := opStep.storeOwn (A := [a0]) p hp hx vs hc h0 hb h
theorem Hp.get2 {a0 a1 : Res} {s : Res} {B : List Res} (h : Hp w0 M (a0 :: a1 :: s :: B) w) : s.holds w := Hp.get (A := [a0, a1]) h
theorem Hp.lt2 {a0 a1 : Res} {s : Res} {B : List Res} (h : Hp w0 M (a0 :: a1 :: s :: B) w) (b : Nat) (hb : s.foot b) : b < w.heap.size := Hp.lt (A := [a0, a1]) h b hb
theorem Hp.ge2 {a0 a1 : Res} {s : Res} {B : List Res} (h : Hp w0 Non (a0 :: a1 :: s :: B) w) (b : Nat) (hb : s.foot b) : w0.heap.size ≤ b := Hp.ge (A := [a0, a1]) h b hb
theorem Hp.mod2 {a0 a1 : Res} {s : Res} {B : List Res} {w' : World} (h : Hp w0 M (a0 :: a1 :: s :: B) w) (hf : Fram s.foot w w') (r' : Res) (hr : r'.holds w') (hn : ∀ b, r'.foot b → b < w'.heap.size ∧ (s.foot b ∨ w.heap.size ≤ b)) : Hp w0 M (a0 :: a1 :: r' :: B) w' := Hp.mod (A := [a0, a1]) h hf r' hr hn
theorem Hp.turn2 {a0 a1 : Res} {s : Res} {B : List Res} (h : Hp w0 M (a0 :: a1 :: s :: B) w) (r' : Res) (hr : s.holds w → r'.holds w) (hn : ∀ b, r'.foot b → s.foot b) : Hp w0 M (a0 :: a1 :: r' :: B) w := Hp.turn (A := [a0, a1]) h r' hr hn
theorem opStep.store2 {T t : TypeId} {x y : Operand} {b o : Nat} {c : List Value} {a0 a1 : Res} {B : List Res} (hp : Hp w0 M (a0 :: a1 :: Res.row b c t :: B) w) (hx : ev e x = .pointer (some ⟨b, o, none⟩)) (vs c' : List Value)
    (hc : ((ev e y).cells.toList, (P.info? T).map (·.size), decide (o + vs.length ≤ c.length), ow c o vs, vs.all (·.oneCell')) = (vs, some vs.length, true, c', true))
    (h : ∀ w', Hp w0 M (a0 :: a1 :: Res.row b c' t :: B) w' → next e w') :
    opStep P N ops Q ⟨none, .store T x y, ty, pos, af, none⟩ next e w := opStep.store (A := [a0, a1]) hp hx vs c' hc h
theorem opStep.append2 {T E ty2 : TypeId} {s x : Operand} {a0 a1 : Res} {B : List Res} {sz n m c : Nat} {v : Value} {xs : List Value} {ad : Addr} (news : List Value) (hp : Hp w0 M (a0 :: a1 :: Res.own E sz v n xs :: B) w)
    (bytes : Nat) (hT : appInfo P T = some (E, sz, bytes))
    (hs : ev e s = v) (hx : ev e x = .slice (some ad) m c) (hl : news.length = m * sz) (hnews : ∀ j u, news[j]? = some u → w.cell? (ad.add j) = some u) (h1 : ∀ u ∈ news, u.oneCell' = true) (hsz : 0 < sz)
    (hb : (n + m) * bytes ≤ 140737488355328) (h63 : n + m ≤ 9223372036854775807)
    (h : ∀ a c' w', Hp w0 M (a0 :: a1 :: Res.own E sz (.slice a (n + m) c') (n + m) (xs ++ news) :: B) w' → (a = none ↔ v = .slice none 0 0 ∧ m = 0) → next (upd e d (.slice a (n + m) c')) w') :
    opStep P N ops Q ⟨some d, .call ⟨.builtin .append, #[s, x], #[T, T]⟩, ty2, pos, af, none⟩ next e w := by
  refine opStep.append (A := [a0, a1]) hp bytes hT hs hx hl hnews h1 hsz hb h63 ?_
  intro v' w' hp' hnil
  obtain ⟨a, c', rfl⟩ := own_slice (Hp.get (A := [a0, a1]) hp')
  refine h a c' w' hp' ?_
  constructor
  · rintro rfl
    exact hnil.1 (own_nil (Hp.get (A := [a0, a1]) hp'))
  · intro hh
    have := hnil.2 hh
    simp at this
    exact this.1
theorem Hp.pull2 {a0 a1 : Res} {s : Res} {B : List Res} (h : Hp w0 M (a0 :: a1 :: s :: B) w) : Hp w0 M (s :: a0 :: a1 :: B) w := Hp.pull (A := [a0, a1]) h
theorem opStep.mapUpdate2 {κ ν : Type} {t : TypeId} {kf : κ → Value} {vf : ν → Value} [DecidableEq κ] {mt et : TypeId} {x y z : Operand} {b : Nat} {l : List (κ × ν)} {a0 a1 : Res} {B : List Res} (K : KeyOk P t kf) (hm : P.underlying mt = some (.map t et)) (hp : Hp w0 M (a0 :: a1 :: Res.mp b kf vf l :: B) w) (k : κ) (v : ν)
    (hx : (ev e x, ev e y, ev e z) = (.map (some b), kf k, vf v)) (h : ∀ w', Hp w0 M (a0 :: a1 :: Res.mp b kf vf (mapPut l k v) :: B) w' → next e w') :
    opStep P N ops Q ⟨none, .mapUpdate mt x y z, ty, pos, af, none⟩ next e w := opStep.mapUpdate (A := [a0, a1]) K hm hp k v hx h
theorem opStep.storeOwn2 {T E : TypeId} {x y : Operand} {sz n c : Nat} {a : Option Addr} {xs : List Value} {a0 a1 : Res} {B : List Res} (p : Nat) (hp : Hp w0 M (a0 :: a1 :: Res.own E sz (.slice a n c) n xs :: B) w) (hx : ev e x = .pointer (some ((adr a).add p))) (vs : List Value)
    (hc : ((ev e y).cells.toList, (P.info? T).map (·.size), vs.all (·.oneCell')) = (vs, some vs.length, true)) (h0 : 0 < vs.length) (hb : p + vs.length ≤ n * sz)
    (h : ∀ w', Hp w0 M (a0 :: a1 :: Res.own E sz (.slice a n c) n (ow xs p vs) :: B) w' → next e w') :
    opStep P N ops Q ⟨none, .store T x y, ty, pos, af, none⟩ next e w := opStep.storeOwn (A := [a0, a1]) p hp hx vs hc h0 hb h
theorem Hp.get3 {a0 a1 a2 : Res} {s : Res} {B : List Res} (h : Hp w0 M (a0 :: a1 :: a2 :: s :: B) w) : s.holds w := Hp.get (A := [a0, a1, a2]) h
theorem Hp.lt3 {a0 a1 a2 : Res} {s : Res} {B : List Res} (h : Hp w0 M (a0 :: a1 :: a2 :: s :: B) w) (b : Nat) (hb : s.foot b) : b < w.heap.size := Hp.lt (A := [a0, a1, a2]) h b hb
theorem Hp.ge3 {a0 a1 a2 : Res} {s : Res} {B : List Res} (h : Hp w0 Non (a0 :: a1 :: a2 :: s :: B) w) (b : Nat) (hb : s.foot b) : w0.heap.size ≤ b := Hp.ge (A := [a0, a1, a2]) h b hb
theorem Hp.mod3 {a0 a1 a2 : Res} {s : Res} {B : List Res} {w' : World} (h : Hp w0 M (a0 :: a1 :: a2 :: s :: B) w) (hf : Fram s.foot w w') (r' : Res) (hr : r'.holds w') (hn : ∀ b, r'.foot b → b < w'.heap.size ∧ (s.foot b ∨ w.heap.size ≤ b)) : Hp w0 M (a0 :: a1 :: a2 :: r' :: B) w' := Hp.mod (A := [a0, a1, a2]) h hf r' hr hn
theorem Hp.turn3 {a0 a1 a2 : Res} {s : Res} {B : List Res} (h : Hp w0 M (a0 :: a1 :: a2 :: s :: B) w) (r' : Res) (hr : s.holds w → r'.holds w) (hn : ∀ b, r'.foot b → s.foot b) : Hp w0 M (a0 :: a1 :: a2 :: r' :: B) w := Hp.turn (A := [a0, a1, a2]) h r' hr hn
theorem opStep.store3 {T t : TypeId} {x y : Operand} {b o : Nat} {c : List Value} {a0 a1 a2 : Res} {B : List Res} (hp : Hp w0 M (a0 :: a1 :: a2 :: Res.row b c t :: B) w) (hx : ev e x = .pointer (some ⟨b, o, none⟩)) (vs c' : List Value)
    (hc : ((ev e y).cells.toList, (P.info? T).map (·.size), decide (o + vs.length ≤ c.length), ow c o vs, vs.all (·.oneCell')) = (vs, some vs.length, true, c', true))
    (h : ∀ w', Hp w0 M (a0 :: a1 :: a2 :: Res.row b c' t :: B) w' → next e w') :
    opStep P N ops Q ⟨none, .store T x y, ty, pos, af, none⟩ next e w := opStep.store (A := [a0, a1, a2]) hp hx vs c' hc h
theorem opStep.append3 {T E ty2 : TypeId} {s x : Operand} {a0 a1 a2 : Res} {B : List Res} {sz n m c : Nat} {v : Value} {xs : List Value} {ad : Addr} (news : List Value) (hp : Hp w0 M (a0 :: a1 :: a2 :: Res.own E sz v n xs :: B) w)
    (bytes : Nat) (hT : appInfo P T = some (E, sz, bytes))
    (hs : ev e s = v) (hx : ev e x = .slice (some ad) m c) (hl : news.length = m * sz) (hnews : ∀ j u, news[j]? = some u → w.cell? (ad.add j) = some u) (h1 : ∀ u ∈ news, u.oneCell' = true) (hsz : 0 < sz)
    (hb : (n + m) * bytes ≤ 140737488355328) (h63 : n + m ≤ 9223372036854775807)
    (h : ∀ a c' w', Hp w0 M (a0 :: a1 :: a2 :: Res.own E sz (.slice a (n + m) c') (n + m) (xs ++ news) :: B) w' → (a = none ↔ v = .slice none 0 0 ∧ m = 0) → next (upd e d (.slice a (n + m) c')) w') :
    opStep P N ops Q ⟨some d, .call ⟨.builtin .append, #[s, x], #[T, T]⟩, ty2, pos, af, none⟩ next e w := by
  refine opStep.append (A := [a0, a1, a2]) hp bytes hT hs hx hl hnews h1 hsz hb h63 ?_
  intro v' w' hp' hnil
  obtain ⟨a, c', rfl⟩ := own_slice (Hp.get (A := [a0, a1, a2]) hp')
  refine h a c' w' hp' ?_
  constructor
  · rintro rfl
    exact hnil.1 (own_nil (Hp.get (A := [a0, a1, a2]) hp'))
  · intro hh
    have := hnil.2 hh
    simp at this
    exact this.1
theorem Hp.pull3 {a0 a1 a2 : Res} {s : Res} {B : List Res} (h : Hp w0 M (a0 :: a1 :: a2 :: s :: B) w) : Hp w0 M (s :: a0 :: a1 :: a2 :: B) w := Hp.pull (A := [a0, a1, a2]) h
theorem opStep.mapUpdate3 {κ ν : Type} {t : TypeId} {kf : κ → Value} {vf : ν → Value} [DecidableEq κ] {mt et : TypeId} {x y z : Operand} {b : Nat} {l : List (κ × ν)} {a0 a1 a2 : Res} {B : List Res} (K : KeyOk P t kf) (hm : P.underlying mt = some (.map t et)) (hp : Hp w0 M (a0 :: a1 :: a2 :: Res.mp b kf vf l :: B) w) (k : κ) (v : ν)
    (hx : (ev e x, ev e y, ev e z) = (.map (some b), kf k, vf v)) (h : ∀ w', Hp w0 M (a0 :: a1 :: a2 :: Res.mp b kf vf (mapPut l k v) :: B) w' → next e w') :
    opStep P N ops Q ⟨none, .mapUpdate mt x y z, ty, pos, af, none⟩ next e w := opStep.mapUpdate (A := [a0, a1, a2]) K hm hp k v hx h
theorem opStep.storeOwn3 {T E : TypeId} {x y : Operand} {sz n c : Nat} {a : Option Addr} {xs : List Value} {a0 a1 a2 : Res} {B : List Res} (p : Nat) (hp : Hp w0 M (a0 :: a1 :: a2 :: Res.own E sz (.slice a n c) n xs :: B) w) (hx : ev e x = .pointer (some ((adr a).add p))) (vs : List Value)
    (hc : ((ev e y).cells.toList, (P.info? T).map (·.size), vs.all (·.oneCell')) = (vs, some vs.length, true)) (h0 : 0 < vs.length) (hb : p + vs.length ≤ n * sz)
    (h : ∀ w', Hp w0 M (a0 :: a1 :: a2 :: Res.own E sz (.slice a n c) n (ow xs p vs) :: B) w' → next e w') :
    opStep P N ops Q ⟨none, .store T x y, ty, pos, af, none⟩ next e w := opStep.storeOwn (A := [a0, a1, a2]) p hp hx vs hc h0 hb h
theorem Hp.get4 {a0 a1 a2 a3 : Res} {s : Res} {B : List Res} (h : Hp w0 M (a0 :: a1 :: a2 :: a3 :: s :: B) w) : s.holds w := Hp.get (A := [a0, a1, a2, a3]) h
theorem Hp.lt4 {a0 a1 a2 a3 : Res} {s : Res} {B : List Res} (h : Hp w0 M (a0 :: a1 :: a2 :: a3 :: s :: B) w) (b : Nat) (hb : s.foot b) : b < w.heap.size := Hp.lt (A := [a0, a1, a2, a3]) h b hb
theorem Hp.ge4 {a0 a1 a2 a3 : Res} {s : Res} {B : List Res} (h : Hp w0 Non (a0 :: a1 :: a2 :: a3 :: s :: B) w) (b : Nat) (hb : s.foot b) : w0.heap.size ≤ b := Hp.ge (A := [a0, a1, a2, a3]) h b hb
theorem Hp.mod4 {a0 a1 a2 a3 : Res} {s : Res} {B : List Res} {w' : World} (h : Hp w0 M (a0 :: a1 :: a2 :: a3 :: s :: B) w) (hf : Fram s.foot w w') (r' : Res) (hr : r'.holds w') (hn : ∀ b, r'.foot b → b < w'.heap.size ∧ (s.foot b ∨ w.heap.size ≤ b)) : Hp w0 M (a0 :: a1 :: a2 :: a3 :: r' :: B) w' := Hp.mod (A := [a0, a1, a2, a3]) h hf r' hr hn
theorem Hp.turn4 {a0 a1 a2 a3 : Res} {s : Res} {B : List Res} (h : Hp w0 M (a0 :: a1 :: a2 :: a3 :: s :: B) w) (r' : Res) (hr : s.holds w → r'.holds w) (hn : ∀ b, r'.foot b → s.foot b) : Hp w0 M (a0 :: a1 :: a2 :: a3 :: r' :: B) w := Hp.turn (A := [a0, a1, a2, a3]) h r' hr hn
theorem opStep.store4 {T t : TypeId} {x y : Operand} {b o : Nat} {c : List Value} {a0 a1 a2 a3 : Res} {B : List Res} (hp : Hp w0 M (a0 :: a1 :: a2 :: a3 :: Res.row b c t :: B) w) (hx : ev e x = .pointer (some ⟨b, o, none⟩)) (vs c' : List Value)
    (hc : ((ev e y).cells.toList, (P.info? T).map (·.size), decide (o + vs.length ≤ c.length), ow c o vs, vs.all (·.oneCell')) = (vs, some vs.length, true, c', true))
    (h : ∀ w', Hp w0 M (a0 :: a1 :: a2 :: a3 :: Res.row b c' t :: B) w' → next e w') :
    opStep P N ops Q ⟨none, .store T x y, ty, pos, af, none⟩ next e w := opStep.store (A := [a0, a1, a2, a3]) hp hx vs c' hc h
theorem opStep.append4 {T E ty2 : TypeId} {s x : Operand} {a0 a1 a2 a3 : Res} {B : List Res} {sz n m c : Nat} {v : Value} {xs : List Value} {ad : Addr} (news : List Value) (hp : Hp w0 M (a0 :: a1 :: a2 :: a3 :: Res.own E sz v n xs :: B) w)
    (bytes : Nat) (hT : appInfo P T = some (E, sz, bytes))
    (hs : ev e s = v) (hx : ev e x = .slice (some ad) m c) (hl : news.length = m * sz) (hnews : ∀ j u, news[j]? = some u → w.cell? (ad.add j) = some u) (h1 : ∀ u ∈ news, u.oneCell' = true) (hsz : 0 < sz)
    (hb : (n + m) * bytes ≤ 140737488355328) (h63 : n + m ≤ 9223372036854775807)
    (h : ∀ a c' w', Hp w0 M (a0 :: a1 :: a2 :: a3 :: Res.own E sz (.slice a (n + m) c') (n + m) (xs ++ news) :: B) w' → (a = none ↔ v = .slice none 0 0 ∧ m = 0) → next (upd e d (.slice a (n + m) c')) w') :
    opStep P N ops Q ⟨some d, .call ⟨.builtin .append, #[s, x], #[T, T]⟩, ty2, pos, af, none⟩ next e w := by
  refine opStep.append (A := [a0, a1, a2, a3]) hp bytes hT hs hx hl hnews h1 hsz hb h63 ?_
  intro v' w' hp' hnil
  obtain ⟨a, c', rfl⟩ := own_slice (Hp.get (A := [a0, a1, a2, a3]) hp')
  refine h a c' w' hp' ?_
  constructor
  · rintro rfl
    exact hnil.1 (own_nil (Hp.get (A := [a0, a1, a2, a3]) hp'))
  · intro hh
    have := hnil.2 hh
    simp at this
    exact this.1
theorem Hp.pull4 {a0 a1 a2 a3 : Res} {s : Res} {B : List Res} (h : Hp w0 M (a0 :: a1 :: a2 :: a3 :: s :: B) w) : Hp w0 M (s :: a0 :: a1 :: a2 :: a3 :: B) w := Hp.pull (A := [a0, a1, a2, a3]) h
theorem opStep.mapUpdate4 {κ ν : Type} {t : TypeId} {kf : κ → Value} {vf : ν → Value} [DecidableEq κ] {mt et : TypeId} {x y z : Operand} {b : Nat} {l : List (κ × ν)} {a0 a1 a2 a3 : Res} {B : List Res} (K : KeyOk P t kf) (hm : P.underlying mt = some (.map t et)) (hp : Hp w0 M (a0 :: a1 :: a2 :: a3 :: Res.mp b kf vf l :: B) w) (k : κ) (v : ν)
    (hx : (ev e x, ev e y, ev e z) = (.map (some b), kf k, vf v)) (h : ∀ w', Hp w0 M (a0 :: a1 :: a2 :: a3 :: Res.mp b kf vf (mapPut l k v) :: B) w' → next e w') :
    opStep P N ops Q ⟨none, .mapUpdate mt x y z, ty, pos, af, none⟩ next e w := opStep.mapUpdate (A := [a0, a1, a2, a3]) K hm hp k v hx h
theorem opStep.storeOwn4 {T E : TypeId} {x y : Operand} {sz n c : Nat} {a : Option Addr} {xs : List Value} {a0 a1 a2 a3 : Res} {B : List Res} (p : Nat) (hp : Hp w0 M (a0 :: a1 :: a2 :: a3 :: Res.own E sz (.slice a n c) n xs :: B) w) (hx : ev e x = .pointer (some ((adr a).add p))) (vs : List Value)
    (hc : ((ev e y).cells.toList, (P.info? T).map (·.size), vs.all (·.oneCell')) = (vs, some vs.length, true)) (h0 : 0 < vs.length) (hb : p + vs.length ≤ n * sz)
    (h : ∀ w', Hp w0 M (a0 :: a1 :: a2 :: a3 :: Res.own E sz (.slice a n c) n (ow xs p vs) :: B) w' → next e w') :
    opStep P N ops Q ⟨none, .store T x y, ty, pos, af, none⟩ next e w := opStep.storeOwn (A := [a0, a1, a2, a3]) p hp hx vs hc h0 hb h
theorem Hp.get5 {a0 a1 a2 a3 a4 : Res} {s : Res} {B : List Res} (h : Hp w0 M (a0 :: a1 :: a2 :: a3 :: a4 :: s :: B) w) : s.holds w := Hp.get (A := [a0, a1, a2, a3, a4]) h
theorem Hp.lt5 {a0 a1 a2 a3 a4 : Res} {s : Res} {B : List Res} (h : Hp w0 M (a0 :: a1 :: a2 :: a3 :: a4 :: s :: B) w) (b : Nat) (hb : s.foot b) : b < w.heap.size := Hp.lt (A := [a0, a1, a2, a3, a4]) h b hb
theorem Hp.ge5 {a0 a1 a2 a3 a4 : Res} {s : Res} {B : List Res} (h : Hp w0 Non (a0 :: a1 :: a2 :: a3 :: a4 :: s :: B) w) (b : Nat) (hb : s.foot b) : w0.heap.size ≤ b := Hp.ge (A := [a0, a1, a2, a3, a4]) h b hb
theorem Hp.mod5 {a0 a1 a2 a3 a4 : Res} {s : Res} {B : List Res} {w' : World} (h : Hp w0 M (a0 :: a1 :: a2 :: a3 :: a4 :: s :: B) w) (hf : Fram s.foot w w') (r' : Res) (hr : r'.holds w') (hn : ∀ b, r'.foot b → b < w'.heap.size ∧ (s.foot b ∨ w.heap.size ≤ b)) : Hp w0 M (a0 :: a1 :: a2 :: a3 :: a4 :: r' :: B) w' := Hp.mod (A := [a0, a1, a2, a3, a4]) h hf r' hr hn
theorem Hp.turn5 {a0 a1 a2 a3 a4 : Res} {s : Res} {B : List Res} (h : Hp w0 M (a0 :: a1 :: a2 :: a3 :: a4 :: s :: B) w) (r' : Res) (hr : s.holds w → r'.holds w) (hn : ∀ b, r'.foot b → s.foot b) : Hp w0 M (a0 :: a1 :: a2 :: a3 :: a4 :: r' :: B) w := Hp.turn (A := [a0, a1, a2, a3, a4]) h r' hr hn
theorem opStep.store5 {T t : TypeId} {x y : Operand} {b o : Nat} {c : List Value} {a0 a1 a2 a3 a4 : Res} {B : List Res} (hp : Hp w0 M (a0 :: a1 :: a2 :: a3 :: a4 :: Res.row b c t :: B) w) (hx : ev e x = .pointer (some ⟨b, o, none⟩)) (vs c' : List Value)
    (hc : ((ev e y).cells.toList, (P.info? T).map (·.size), decide (o + vs.length ≤ c.length), ow c o vs, vs.all (·.oneCell')) = (vs, some vs.length, true, c', true))
    (h : ∀ w', Hp w0 M (a0 :: a1 :: a2 :: a3 :: a4 :: Res.row b c' t :: B) w' → next e w') :
    opStep P N ops Q ⟨none, .store T x y, ty, pos, af, none⟩ next e w := opStep.store (A := [a0, a1, a2, a3, a4]) hp hx vs c' hc h
theorem opStep.append5 {T E ty2 : TypeId} {s x : Operand} {a0 a1 a2 a3 a4 : Res} {B : List Res} {sz n m c : Nat} {v : Value} {xs : List Value} {ad : Addr} (news : List Value) (hp : Hp w0 M (a0 :: a1 :: a2 :: a3 :: a4 :: Res.own E sz v n xs :: B) w)
    (bytes : Nat) (hT : appInfo P T = some (E, sz, bytes))
    (hs : ev e s = v) (hx : ev e x = .slice (some ad) m c) (hl : news.length = m * sz) (hnews : ∀ j u, news[j]? = some u → w.cell? (ad.add j) = some u) (h1 : ∀ u ∈ news, u.oneCell' = true) (hsz : 0 < sz)
    (hb : (n + m) * bytes ≤ 140737488355328) (h63 : n + m ≤ 9223372036854775807)
    (h : ∀ a c' w', Hp w0 M (a0 :: a1 :: a2 :: a3 :: a4 :: Res.own E sz (.slice a (n + m) c') (n + m) (xs ++ news) :: B) w' → (a = none ↔ v = .slice none 0 0 ∧ m = 0) → next (upd e d (.slice a (n + m) c')) w') :
    opStep P N ops Q ⟨some d, .call ⟨.builtin .append, #[s, x], #[T, T]⟩, ty2, pos, af, none⟩ next e w := by
  refine opStep.append (A := [a0, a1, a2, a3, a4]) hp bytes hT hs hx hl hnews h1 hsz hb h63 ?_
  intro v' w' hp' hnil
  obtain ⟨a, c', rfl⟩ := own_slice (Hp.get (A := [a0, a1, a2, a3, a4]) hp')
  refine h a c' w' hp' ?_
  constructor
  · rintro rfl
    exact hnil.1 (own_nil (Hp.get (A := [a0, a1, a2, a3, a4]) hp'))
  · intro hh
    have := hnil.2 hh
    simp at this
    exact this.1
theorem Hp.pull5 {a0 a1 a2 a3 a4 : Res} {s : Res} {B : List Res} (h : Hp w0 M (a0 :: a1 :: a2 :: a3 :: a4 :: s :: B) w) : Hp w0 M (s :: a0 :: a1 :: a2 :: a3 :: a4 :: B) w := Hp.pull (A := [a0, a1, a2, a3, a4]) h
theorem opStep.mapUpdate5 {κ ν : Type} {t : TypeId} {kf : κ → Value} {vf : ν → Value} [DecidableEq κ] {mt et : TypeId} {x y z : Operand} {b : Nat} {l : List (κ × ν)} {a0 a1 a2 a3 a4 : Res} {B : List Res} (K : KeyOk P t kf) (hm : P.underlying mt = some (.map t et)) (hp : Hp w0 M (a0 :: a1 :: a2 :: a3 :: a4 :: Res.mp b kf vf l :: B) w) (k : κ) (v : ν)
    (hx : (ev e x, ev e y, ev e z) = (.map (some b), kf k, vf v)) (h : ∀ w', Hp w0 M (a0 :: a1 :: a2 :: a3 :: a4 :: Res.mp b kf vf (mapPut l k v) :: B) w' → next e w') :
    opStep P N ops Q ⟨none, .mapUpdate mt x y z, ty, pos, af, none⟩ next e w := opStep.mapUpdate (A := [a0, a1, a2, a3, a4]) K hm hp k v hx h
theorem opStep.storeOwn5 {T E : TypeId} {x y : Operand} {sz n c : Nat} {a : Option Addr} {xs : List Value} {a0 a1 a2 a3 a4 : Res} {B : List Res} (p : Nat) (hp : Hp w0 M (a0 :: a1 :: a2 :: a3 :: a4 :: Res.own E sz (.slice a n c) n xs :: B) w) (hx : ev e x = .pointer (some ((adr a).add p))) (vs : List Value)
    (hc : ((ev e y).cells.toList, (P.info? T).map (·.size), vs.all (·.oneCell')) = (vs, some vs.length, true)) (h0 : 0 < vs.length) (hb : p + vs.length ≤ n * sz)
    (h : ∀ w', Hp w0 M (a0 :: a1 :: a2 :: a3 :: a4 :: Res.own E sz (.slice a n c) n (ow xs p vs) :: B) w' → next e w') :
    opStep P N ops Q ⟨none, .store T x y, ty, pos, af, none⟩ next e w := opStep.storeOwn (A := [a0, a1, a2, a3, a4]) p hp hx vs hc h0 hb h
theorem Hp.get6 {a0 a1 a2 a3 a4 a5 : Res} {s : Res} {B : List Res} (h : Hp w0 M (a0 :: a1 :: a2 :: a3 :: a4 :: a5 :: s :: B) w) : s.holds w := Hp.get (A := [a0, a1, a2, a3, a4, a5]) h
theorem Hp.lt6 {a0 a1 a2 a3 a4 a5 : Res} {s : Res} {B : List Res} (h : Hp w0 M (a0 :: a1 :: a2 :: a3 :: a4 :: a5 :: s :: B) w) (b : Nat) (hb : s.foot b) : b < w.heap.size := Hp.lt (A := [a0, a1, a2, a3, a4, a5]) h b hb
theorem Hp.ge6 {a0 a1 a2 a3 a4 a5 : Res} {s : Res} {B : List Res} (h : Hp w0 Non (a0 :: a1 :: a2 :: a3 :: a4 :: a5 :: s :: B) w) (b : Nat) (hb : s.foot b) : w0.heap.size ≤ b := Hp.ge (A := [a0, a1, a2, a3, a4, a5]) h b hb
theorem Hp.mod6 {a0 a1 a2 a3 a4 a5 : Res} {s : Res} {B : List Res} {w' : World} (h : Hp w0 M (a0 :: a1 :: a2 :: a3 :: a4 :: a5 :: s :: B) w) (hf : Fram s.foot w w') (r' : Res) (hr : r'.holds w') (hn : ∀ b, r'.foot b → b < w'.heap.size ∧ (s.foot b ∨ w.heap.size ≤ b)) : Hp w0 M (a0 :: a1 :: a2 :: a3 :: a4 :: a5 :: r' :: B) w' := Hp.mod (A := [a0, a1, a2, a3, a4, a5]) h hf r' hr hn
theorem Hp.turn6 {a0 a1 a2 a3 a4 a5 : Res} {s : Res} {B : List Res} (h : Hp w0 M (a0 :: a1 :: a2 :: a3 :: a4 :: a5 :: s :: B) w) (r' : Res) (hr : s.holds w → r'.holds w) (hn : ∀ b, r'.foot b → s.foot b) : Hp w0 M (a0 :: a1 :: a2 :: a3 :: a4 :: a5 :: r' :: B) w := Hp.turn (A := [a0, a1, a2, a3, a4, a5]) h r' hr hn
theorem opStep.store6 {T t : TypeId} {x y : Operand} {b o : Nat} {c : List Value} {a0 a1 a2 a3 a4 a5 : Res} {B : List Res} (hp : Hp w0 M (a0 :: a1 :: a2 :: a3 :: a4 :: a5 :: Res.row b c t :: B) w) (hx : ev e x = .pointer (some ⟨b, o, none⟩)) (vs c' : List Value)
    (hc : ((ev e y).cells.toList, (P.info? T).map (·.size), decide (o + vs.length ≤ c.length), ow c o vs, vs.all (·.oneCell')) = (vs, some vs.length, true, c', true))
    (h : ∀ w', Hp w0 M (a0 :: a1 :: a2 :: a3 :: a4 :: a5 :: Res.row b c' t :: B) w' → next e w') :
    opStep P N ops Q ⟨none, .store T x y, ty, pos, af, none⟩ next e w := opStep.store (A := [a0, a1, a2, a3, a4, a5]) hp hx vs c' hc h
theorem opStep.append6 {T E ty2 : TypeId} {s x : Operand} {a0 a1 a2 a3 a4 a5 : Res} {B : List Res} {sz n m c : Nat} {v : Value} {xs : List Value} {ad : Addr} (news : List Value) (hp : Hp w0 M (a0 :: a1 :: a2 :: a3 :: a4 :: a5 :: Res.own E sz v n xs :: B) w)
    (bytes : Nat) (hT : appInfo P T = some (E, sz, bytes))
    (hs : ev e s = v) (hx : ev e x = .slice (some ad) m c) (hl : news.length = m * sz) (hnews : ∀ j u, news[j]? = some u → w.cell? (ad.add j) = some u) (h1 : ∀ u ∈ news, u.oneCell' = true) (hsz : 0 < sz)
    (hb : (n + m) * bytes ≤ 140737488355328) (h63 : n + m ≤ 9223372036854775807)
    (h : ∀ a c' w', Hp w0 M (a0 :: a1 :: a2 :: a3 :: a4 :: a5 :: Res.own E sz (.slice a (n + m) c') (n + m) (xs ++ news) :: B) w' → (a = none ↔ v = .slice none 0 0 ∧ m = 0) → next (upd e d (.slice a (n + m) c')) w') :
    opStep P N ops Q ⟨some d, .call ⟨.builtin .append, #[s, x], #[T, T]⟩, ty2, pos, af, none⟩ next e w := by
  refine opStep.append (A := [a0, a1, a2, a3, a4, a5]) hp bytes hT hs hx hl hnews h1 hsz hb h63 ?_
  intro v' w' hp' hnil
  obtain ⟨a, c', rfl⟩ := own_slice (Hp.get (A := [a0, a1, a2, a3, a4, a5]) hp')
  refine h a c' w' hp' ?_
  constructor
  · rintro rfl
    exact hnil.1 (own_nil (Hp.get (A := [a0, a1, a2, a3, a4, a5]) hp'))
  · intro hh
    have := hnil.2 hh
    simp at this
    exact this.1
theorem Hp.pull6 {a0 a1 a2 a3 a4 a5 : Res} {s : Res} {B : List Res} (h : Hp w0 M (a0 :: a1 :: a2 :: a3 :: a4 :: a5 :: s :: B) w) : Hp w0 M (s :: a0 :: a1 :: a2 :: a3 :: a4 :: a5 :: B) w := Hp.pull (A := [a0, a1, a2, a3, a4, a5]) h
theorem opStep.mapUpdate6 {κ ν : Type} {t : TypeId} {kf : κ → Value} {vf : ν → Value} [DecidableEq κ] {mt et : TypeId} {x y z : Operand} {b : Nat} {l : List (κ × ν)} {a0 a1 a2 a3 a4 a5 : Res} {B : List Res} (K : KeyOk P t kf) (hm : P.underlying mt = some (.map t et)) (hp : Hp w0 M (a0 :: a1 :: a2 :: a3 :: a4 :: a5 :: Res.mp b kf vf l :: B) w) (k : κ) (v : ν)
    (hx : (ev e x, ev e y, ev e z) = (.map (some b), kf k, vf v)) (h : ∀ w', Hp w0 M (a0 :: a1 :: a2 :: a3 :: a4 :: a5 :: Res.mp b kf vf (mapPut l k v) :: B) w' → next e w') :
    opStep P N ops Q ⟨none, .mapUpdate mt x y z, ty, pos, af, none⟩ next e w := opStep.mapUpdate (A := [a0, a1, a2, a3, a4, a5]) K hm hp k v hx h
theorem opStep.storeOwn6 {T E : TypeId} {x y : Operand} {sz n c : Nat} {a : Option Addr} {xs : List Value} {a0 a1 a2 a3 a4 a5 : Res} {B : List Res} (p : Nat) (hp : Hp w0 M (a0 :: a1 :: a2 :: a3 :: a4 :: a5 :: Res.own E sz (.slice a n c) n xs :: B) w) (hx : ev e x = .pointer (some ((adr a).add p))) (vs : List Value)
    (hc : ((ev e y).cells.toList, (P.info? T).map (·.size), vs.all (·.oneCell')) = (vs, some vs.length, true)) (h0 : 0 < vs.length) (hb : p + vs.length ≤ n * sz)
    (h : ∀ w', Hp w0 M (a0 :: a1 :: a2 :: a3 :: a4 :: a5 :: Res.own E sz (.slice a n c) n (ow xs p vs) :: B) w' → next e w') :
    opStep P N ops Q ⟨none, .store T x y, ty, pos, af, none⟩ next e w := opStep.storeOwn (A := [a0, a1, a2, a3, a4, a5]) p hp hx vs hc h0 hb h
theorem Hp.get7 {a0 a1 a2 a3 a4 a5 a6 : Res} {s : Res} {B : List Res} (h : Hp w0 M (a0 :: a1 :: a2 :: a3 :: a4 :: a5 :: a6 :: s :: B) w) : s.holds w := Hp.get (A := [a0, a1, a2, a3, a4, a5, a6]) h
theorem Hp.lt7 {a0 a1 a2 a3 a4 a5 a6 : Res} {s : Res} {B : List Res} (h : Hp w0 M (a0 :: a1 :: a2 :: a3 :: a4 :: a5 :: a6 :: s :: B) w) (b : Nat) (hb : s.foot b) : b < w.heap.size := Hp.lt (A := [a0, a1, a2, a3, a4, a5, a6]) h b hb
theorem Hp.ge7 {a0 a1 a2 a3 a4 a5 a6 : Res} {s : Res} {B : List Res} (h : Hp w0 Non (a0 :: a1 :: a2 :: a3 :: a4 :: a5 :: a6 :: s :: B) w) (b : Nat) (hb : s.foot b) : w0.heap.size ≤ b := Hp.ge (A := [a0, a1, a2, a3, a4, a5, a6]) h b hb
theorem Hp.mod7 {a0 a1 a2 a3 a4 a5 a6 : Res} {s : Res} {B : List Res} {w' : World} (h : Hp w0 M (a0 :: a1 :: a2 :: a3 :: a4 :: a5 :: a6 :: s :: B) w) (hf : Fram s.foot w w') (r' : Res) (hr : r'.holds w') (hn : ∀ b, r'.foot b → b < w'.heap.size ∧ (s.foot b ∨ w.heap.size ≤ b)) : Hp w0 M (a0 :: a1 :: a2 :: a3 :: a4 :: a5 :: a6 :: r' :: B) w' := Hp.mod (A := [a0, a1, a2, a3, a4, a5, a6]) h hf r' hr hn
theorem Hp.turn7 {a0 a1 a2 a3 a4 a5 a6 : Res} {s : Res} {B : List Res} (h : Hp w0 M (a0 :: a1 :: a2 :: a3 :: a4 :: a5 :: a6 :: s :: B) w) (r' : Res) (hr : s.holds w → r'.holds w) (hn : ∀ b, r'.foot b → s.foot b) : Hp w0 M (a0 :: a1 :: a2 :: a3 :: a4 :: a5 :: a6 :: r' :: B) w := Hp.turn (A := [a0, a1, a2, a3, a4, a5, a6]) h r' hr hn
theorem opStep.store7 {T t : TypeId} {x y : Operand} {b o : Nat} {c : List Value} {a0 a1 a2 a3 a4 a5 a6 : Res} {B : List Res} (hp : Hp w0 M (a0 :: a1 :: a2 :: a3 :: a4 :: a5 :: a6 :: Res.row b c t :: B) w) (hx : ev e x = .pointer (some ⟨b, o, none⟩)) (vs c' : List Value)
    (hc : ((ev e y).cells.toList, (P.info? T).map (·.size), decide (o + vs.length ≤ c.length), ow c o vs, vs.all (·.oneCell')) = (vs, some vs.length, true, c', true))
    (h : ∀ w', Hp w0 M (a0 :: a1 :: a2 :: a3 :: a4 :: a5 :: a6 :: Res.row b c' t :: B) w' → next e w') :
    opStep P N ops Q ⟨none, .store T x y, ty, pos, af, none⟩ next e w := opStep.store (A := [a0, a1, a2, a3, a4, a5, a6]) hp hx vs c' hc h
theorem opStep.append7 {T E ty2 : TypeId} {s x : Operand} {a0 a1 a2 a3 a4 a5 a6 : Res} {B : List Res} {sz n m c : Nat} {v : Value} {xs : List Value} {ad : Addr} (news : List Value) (hp : Hp w0 M (a0 :: a1 :: a2 :: a3 :: a4 :: a5 :: a6 :: Res.own E sz v n xs :: B) w)
    (bytes : Nat) (hT : appInfo P T = some (E, sz, bytes))
    (hs : ev e s = v) (hx : ev e x = .slice (some ad) m c) (hl : news.length = m * sz) (hnews : ∀ j u, news[j]? = some u → w.cell? (ad.add j) = some u) (h1 : ∀ u ∈ news, u.oneCell' = true) (hsz : 0 < sz)
    (hb : (n + m) * bytes ≤ 140737488355328) (h63 : n + m ≤ 9223372036854775807)
    (h : ∀ a c' w', Hp w0 M (a0 :: a1 :: a2 :: a3 :: a4 :: a5 :: a6 :: Res.own E sz (.slice a (n + m) c') (n + m) (xs ++ news) :: B) w' → (a = none ↔ v = .slice none 0 0 ∧ m = 0) → next (upd e d (.slice a (n + m) c')) w') :
    opStep P N ops Q ⟨some d, .call ⟨.builtin .append, #[s, x], #[T, T]⟩, ty2, pos, af, none⟩ next e w := by
  refine opStep.append (A := [a0, a1, a2, a3, a4, a5, a6]) hp bytes hT hs hx hl hnews h1 hsz hb h63 ?_
  intro v' w' hp' hnil
  obtain ⟨a, c', rfl⟩ := own_slice (Hp.get (A := [a0, a1, a2, a3, a4, a5, a6]) hp')
  refine h a c' w' hp' ?_
  constructor
  · rintro rfl
    exact hnil.1 (own_nil (Hp.get (A := [a0, a1, a2, a3, a4, a5, a6]) hp'))
  · intro hh
    have := hnil.2 hh
    simp at this
    exact this.1
theorem Hp.pull7 {a0 a1 a2 a3 a4 a5 a6 : Res} {s : Res} {B : List Res} (h : Hp w0 M (a0 :: a1 :: a2 :: a3 :: a4 :: a5 :: a6 :: s :: B) w) : Hp w0 M (s :: a0 :: a1 :: a2 :: a3 :: a4 :: a5 :: a6 :: B) w := Hp.pull (A := [a0, a1, a2, a3, a4, a5, a6]) h
theorem opStep.mapUpdate7 {κ ν : Type} {t : TypeId} {kf : κ → Value} {vf : ν → Value} [DecidableEq κ] {mt et : TypeId} {x y z : Operand} {b : Nat} {l : List (κ × ν)} {a0 a1 a2 a3 a4 a5 a6 : Res} {B : List Res} (K : KeyOk P t kf) (hm : P.underlying mt = some (.map t et)) (hp : Hp w0 M (a0 :: a1 :: a2 :: a3 :: a4 :: a5 :: a6 :: Res.mp b kf vf l :: B) w) (k : κ) (v : ν)
    (hx : (ev e x, ev e y, ev e z) = (.map (some b), kf k, vf v)) (h : ∀ w', Hp w0 M (a0 :: a1 :: a2 :: a3 :: a4 :: a5 :: a6 :: Res.mp b kf vf (mapPut l k v) :: B) w' → next e w') :
    opStep P N ops Q ⟨none, .mapUpdate mt x y z, ty, pos, af, none⟩ next e w := opStep.mapUpdate (A := [a0, a1, a2, a3, a4, a5, a6]) K hm hp k v hx h
theorem opStep.storeOwn7 {T E : TypeId} {x y : Operand} {sz n c : Nat} {a : Option Addr} {xs : List Value} {a0 a1 a2 a3 a4 a5 a6 : Res} {B : List Res} (p : Nat) (hp : Hp w0 M (a0 :: a1 :: a2 :: a3 :: a4 :: a5 :: a6 :: Res.own E sz (.slice a n c) n xs :: B) w) (hx : ev e x = .pointer (some ((adr a).add p))) (vs : List Value)
    (hc : ((ev e y).cells.toList, (P.info? T).map (·.size), vs.all (·.oneCell')) = (vs, some vs.length, true)) (h0 : 0 < vs.length) (hb : p + vs.length ≤ n * sz)
    (h : ∀ w', Hp w0 M (a0 :: a1 :: a2 :: a3 :: a4 :: a5 :: a6 :: Res.own E sz (.slice a n c) n (ow xs p vs) :: B) w' → next e w') :
    opStep P N ops Q ⟨none, .store T x y, ty, pos, af, none⟩ next e w := opStep.storeOwn (A := [a0, a1, a2, a3, a4, a5, a6]) p hp hx vs hc h0 hb h
theorem Hp.get8 {a0 a1 a2 a3 a4 a5 a6 a7 : Res} {s : Res} {B : List Res} (h : Hp w0 M (a0 :: a1 :: a2 :: a3 :: a4 :: a5 :: a6 :: a7 :: s :: B) w) : s.holds w := Hp.get (A := [a0, a1, a2, a3, a4, a5, a6, a7]) h
theorem Hp.lt8 {a0 a1 a2 a3 a4 a5 a6 a7 : Res} {s : Res} {B : List Res} (h : Hp w0 M (a0 :: a1 :: a2 :: a3 :: a4 :: a5 :: a6 :: a7 :: s :: B) w) (b : Nat) (hb : s.foot b) : b < w.heap.size := Hp.lt (A := [a0, a1, a2, a3, a4, a5, a6, a7]) h b hb
theorem Hp.ge8 {a0 a1 a2 a3 a4 a5 a6 a7 : Res} {s : Res} {B : List Res} (h : Hp w0 Non (a0 :: a1 :: a2 :: a3 :: a4 :: a5 :: a6 :: a7 :: s :: B) w) (b : Nat) (hb : s.foot b) : w0.heap.size ≤ b := Hp.ge (A := [a0, a1, a2, a3, a4, a5, a6, a7]) h b hb
theorem Hp.mod8 {a0 a1 a2 a3 a4 a5 a6 a7 : Res} {s : Res} {B : List Res} {w' : World} (h : Hp w0 M (a0 :: a1 :: a2 :: a3 :: a4 :: a5 :: a6 :: a7 :: s :: B) w) (hf : Fram s.foot w w') (r' : Res) (hr : r'.holds w') (hn : ∀ b, r'.foot b → b < w'.heap.size ∧ (s.foot b ∨ w.heap.size ≤ b)) : Hp w0 M (a0 :: a1 :: a2 :: a3 :: a4 :: a5 :: a6 :: a7 :: r' :: B) w' := Hp.mod (A := [a0, a1, a2, a3, a4, a5, a6, a7]) h hf r' hr hn
theorem Hp.turn8 {a0 a1 a2 a3 a4 a5 a6 a7 : Res} {s : Res} {B : List Res} (h : Hp w0 M (a0 :: a1 :: a2 :: a3 :: a4 :: a5 :: a6 :: a7 :: s :: B) w) (r' : Res) (hr : s.holds w → r'.holds w) (hn : ∀ b, r'.foot b → s.foot b) : Hp w0 M (a0 :: a1 :: a2 :: a3 :: a4 :: a5 :: a6 :: a7 :: r' :: B) w := Hp.turn (A := [a0, a1, a2, a3, a4, a5, a6, a7]) h r' hr hn
theorem opStep.store8 {T t : TypeId} {x y : Operand} {b o : Nat} {c : List Value} {a0 a1 a2 a3 a4 a5 a6 a7 : Res} {B : List Res} (hp : Hp w0 M (a0 :: a1 :: a2 :: a3 :: a4 :: a5 :: a6 :: a7 :: Res.row b c t :: B) w) (hx : ev e x = .pointer (some ⟨b, o, none⟩)) (vs c' : List Value)
    (hc : ((ev e y).cells.toList, (P.info? T).map (·.size), decide (o + vs.length ≤ c.length), ow c o vs, vs.all (·.oneCell')) = (vs, some vs.length, true, c', true))
    (h : ∀ w', Hp w0 M (a0 :: a1 :: a2 :: a3 :: a4 :: a5 :: a6 :: a7 :: Res.row b c' t :: B) w' → next e w') :
    opStep P N ops Q ⟨none, .store T x y, ty, pos, af, none⟩ next e w := opStep.store (A := [a0, a1, a2, a3, a4, a5, a6, a7]) hp hx vs c' hc h
theorem opStep.append8 {T E ty2 : TypeId} {s x : Operand} {a0 a1 a2 a3 a4 a5 a6 a7 : Res} {B : List Res} {sz n m c : Nat} {v : Value} {xs : List Value} {ad : Addr} (news : List Value) (hp : Hp w0 M (a0 :: a1 :: a2 :: a3 :: a4 :: a5 :: a6 :: a7 :: Res.own E sz v n xs :: B) w)
    (bytes : Nat) (hT : appInfo P T = some (E, sz, bytes))
    (hs : ev e s = v) (hx : ev e x = .slice (some ad) m c) (hl : news.length = m * sz) (hnews : ∀ j u, news[j]? = some u → w.cell? (ad.add j) = some u) (h1 : ∀ u ∈ news, u.oneCell' = true) (hsz : 0 < sz)
    (hb : (n + m) * bytes ≤ 140737488355328) (h63 : n + m ≤ 9223372036854775807)
    (h : ∀ a c' w', Hp w0 M (a0 :: a1 :: a2 :: a3 :: a4 :: a5 :: a6 :: a7 :: Res.own E sz (.slice a (n + m) c') (n + m) (xs ++ news) :: B) w' → (a = none ↔ v = .slice none 0 0 ∧ m = 0) → next (upd e d (.slice a (n + m) c')) w') :
    opStep P N ops Q ⟨some d, .call ⟨.builtin .append, #[s, x], #[T, T]⟩, ty2, pos, af, none⟩ next e w := by
  refine opStep.append (A := [a0, a1, a2, a3, a4, a5, a6, a7]) hp bytes hT hs hx hl hnews h1 hsz hb h63 ?_
  intro v' w' hp' hnil
  obtain ⟨a, c', rfl⟩ := own_slice (Hp.get (A := [a0, a1, a2, a3, a4, a5, a6, a7]) hp')
  refine h a c' w' hp' ?_
  constructor
  · rintro rfl
    exact hnil.1 (own_nil (Hp.get (A := [a0, a1, a2, a3, a4, a5, a6, a7]) hp'))
  · intro hh
    have := hnil.2 hh
    simp at this
    exact this.1
theorem Hp.pull8 {a0 a1 a2 a3 a4 a5 a6 a7 : Res} {s : Res} {B : List Res} (h : Hp w0 M (a0 :: a1 :: a2 :: a3 :: a4 :: a5 :: a6 :: a7 :: s :: B) w) : Hp w0 M (s :: a0 :: a1 :: a2 :: a3 :: a4 :: a5 :: a6 :: a7 :: B) w := Hp.pull (A := [a0, a1, a2, a3, a4, a5, a6, a7]) h
theorem opStep.mapUpdate8 {κ ν : Type} {t : TypeId} {kf : κ → Value} {vf : ν → Value} [DecidableEq κ] {mt et : TypeId} {x y z : Operand} {b : Nat} {l : List (κ × ν)} {a0 a1 a2 a3 a4 a5 a6 a7 : Res} {B : List Res} (K : KeyOk P t kf) (hm : P.underlying mt = some (.map t et)) (hp : Hp w0 M (a0 :: a1 :: a2 :: a3 :: a4 :: a5 :: a6 :: a7 :: Res.mp b kf vf l :: B) w) (k : κ) (v : ν)
    (hx : (ev e x, ev e y, ev e z) = (.map (some b), kf k, vf v)) (h : ∀ w', Hp w0 M (a0 :: a1 :: a2 :: a3 :: a4 :: a5 :: a6 :: a7 :: Res.mp b kf vf (mapPut l k v) :: B) w' → next e w') :
    opStep P N ops Q ⟨none, .mapUpdate mt x y z, ty, pos, af, none⟩ next e w := opStep.mapUpdate (A := [a0, a1, a2, a3, a4, a5, a6, a7]) K hm hp k v hx h
theorem opStep.storeOwn8 {T E : TypeId} {x y : Operand} {sz n c : Nat} {a : Option Addr} {xs : List Value} {a0 a1 a2 a3 a4 a5 a6 a7 : Res} {B : List Res} (p : Nat) (hp : Hp w0 M (a0 :: a1 :: a2 :: a3 :: a4 :: a5 :: a6 :: a7 :: Res.own E sz (.slice a n c) n xs :: B) w) (hx : ev e x = .pointer (some ((adr a).add p))) (vs : List Value)
    (hc : ((ev e y).cells.toList, (P.info? T).map (·.size), vs.all (·.oneCell')) = (vs, some vs.length, true)) (h0 : 0 < vs.length) (hb : p + vs.length ≤ n * sz)
    (h : ∀ w', Hp w0 M (a0 :: a1 :: a2 :: a3 :: a4 :: a5 :: a6 :: a7 :: Res.own E sz (.slice a n c) n (ow xs p vs) :: B) w' → next e w') :
    opStep P N ops Q ⟨none, .store T x y, ty, pos, af, none⟩ next e w := opStep.storeOwn (A := [a0, a1, a2, a3, a4, a5, a6, a7]) p hp hx vs hc h0 hb h
theorem Hp.get9 {a0 a1 a2 a3 a4 a5 a6 a7 a8 : Res} {s : Res} {B : List Res} (h : Hp w0 M (a0 :: a1 :: a2 :: a3 :: a4 :: a5 :: a6 :: a7 :: a8 :: s :: B) w) : s.holds w := Hp.get (A := [a0, a1, a2, a3, a4, a5, a6, a7, a8]) h
theorem Hp.lt9 {a0 a1 a2 a3 a4 a5 a6 a7 a8 : Res} {s : Res} {B : List Res} (h : Hp w0 M (a0 :: a1 :: a2 :: a3 :: a4 :: a5 :: a6 :: a7 :: a8 :: s :: B) w) (b : Nat) (hb : s.foot b) : b < w.heap.size := Hp.lt (A := [a0, a1, a2, a3, a4, a5, a6, a7, a8]) h b hb
theorem Hp.ge9 {a0 a1 a2 a3 a4 a5 a6 a7 a8 : Res} {s : Res} {B : List Res} (h : Hp w0 Non (a0 :: a1 :: a2 :: a3 :: a4 :: a5 :: a6 :: a7 :: a8 :: s :: B) w) (b : Nat) (hb : s.foot b) : w0.heap.size ≤ b := Hp.ge (A := [a0, a1, a2, a3, a4, a5, a6, a7, a8]) h b hb
theorem Hp.mod9 {a0 a1 a2 a3 a4 a5 a6 a7 a8 : Res} {s : Res} {B : List Res} {w' : World} (h : Hp w0 M (a0 :: a1 :: a2 :: a3 :: a4 :: a5 :: a6 :: a7 :: a8 :: s :: B) w) (hf : Fram s.foot w w') (r' : Res) (hr : r'.holds w') (hn : ∀ b, r'.foot b → b < w'.heap.size ∧ (s.foot b ∨ w.heap.size ≤ b)) : Hp w0 M (a0 :: a1 :: a2 :: a3 :: a4 :: a5 :: a6 :: a7 :: a8 :: r' :: B) w' := Hp.mod (A := [a0, a1, a2, a3, a4, a5, a6, a7, a8]) h hf r' hr hn
theorem Hp.turn9 {a0 a1 a2 a3 a4 a5 a6 a7 a8 : Res} {s : Res} {B : List Res} (h : Hp w0 M (a0 :: a1 :: a2 :: a3 :: a4 :: a5 :: a6 :: a7 :: a8 :: s :: B) w) (r' : Res) (hr : s.holds w → r'.holds w) (hn : ∀ b, r'.foot b → s.foot b) : Hp w0 M (a0 :: a1 :: a2 :: a3 :: a4 :: a5 :: a6 :: a7 :: a8 :: r' :: B) w := Hp.turn (A := [a0, a1, a2, a3, a4, a5, a6, a7, a8]) h r' hr hn
theorem opStep.store9 {T t : TypeId} {x y : Operand} {b o : Nat} {c : List Value} {a0 a1 a2 a3 a4 a5 a6 a7 a8 : Res} {B : List Res} (hp : Hp w0 M (a0 :: a1 :: a2 :: a3 :: a4 :: a5 :: a6 :: a7 :: a8 :: Res.row b c t :: B) w) (hx : ev e x = .pointer (some ⟨b, o, none⟩)) (vs c' : List Value)
    (hc : ((ev e y).cells.toList, (P.info? T).map (·.size), decide (o + vs.length ≤ c.length), ow c o vs, vs.all (·.oneCell')) = (vs, some vs.length, true, c', true))
    (h : ∀ w', Hp w0 M (a0 :: a1 :: a2 :: a3 :: a4 :: a5 :: a6 :: a7 :: a8 :: Res.row b c' t :: B) w' → next e w') :
    opStep P N ops Q ⟨none, .store T x y, ty, pos, af, none⟩ next e w := opStep.store (A := [a0, a1, a2, a3, a4, a5, a6, a7, a8]) hp hx vs c' hc h
theorem opStep.append9 {T E ty2 : TypeId} {s x : Operand} {a0 a1 a2 a3 a4 a5 a6 a7 a8 : Res} {B : List Res} {sz n m c : Nat} {v : Value} {xs : List Value} {ad : Addr} (news : List Value) (hp : Hp w0 M (a0 :: a1 :: a2 :: a3 :: a4 :: a5 :: a6 :: a7 :: a8 :: Res.own E sz v n xs :: B) w)
    (bytes : Nat) (hT : appInfo P T = some (E, sz, bytes))
    (hs : ev e s = v) (hx : ev e x = .slice (some ad) m c) (hl : news.length = m * sz) (hnews : ∀ j u, news[j]? = some u → w.cell? (ad.add j) = some u) (h1 : ∀ u ∈ news, u.oneCell' = true) (hsz : 0 < sz)
    (hb : (n + m) * bytes ≤ 140737488355328) (h63 : n + m ≤ 9223372036854775807)
    (h : ∀ a c' w', Hp w0 M (a0 :: a1 :: a2 :: a3 :: a4 :: a5 :: a6 :: a7 :: a8 :: Res.own E sz (.slice a (n + m) c') (n + m) (xs ++ news) :: B) w' → (a = none ↔ v = .slice none 0 0 ∧ m = 0) → next (upd e d (.slice a (n + m) c')) w') :
    opStep P N ops Q ⟨some d, .call ⟨.builtin .append, #[s, x], #[T, T]⟩, ty2, pos, af, none⟩ next e w := by
  refine opStep.append (A := [a0, a1, a2, a3, a4, a5, a6, a7, a8]) hp bytes hT hs hx hl hnews h1 hsz hb h63 ?_
  intro v' w' hp' hnil
  obtain ⟨a, c', rfl⟩ := own_slice (Hp.get (A := [a0, a1, a2, a3, a4, a5, a6, a7, a8]) hp')
  refine h a c' w' hp' ?_
  constructor
  · rintro rfl
    exact hnil.1 (own_nil (Hp.get (A := [a0, a1, a2, a3, a4, a5, a6, a7, a8]) hp'))
  · intro hh
    have := hnil.2 hh
    simp at this
    exact this.1
theorem Hp.pull9 {a0 a1 a2 a3 a4 a5 a6 a7 a8 : Res} {s : Res} {B : List Res} (h : Hp w0 M (a0 :: a1 :: a2 :: a3 :: a4 :: a5 :: a6 :: a7 :: a8 :: s :: B) w) : Hp w0 M (s :: a0 :: a1 :: a2 :: a3 :: a4 :: a5 :: a6 :: a7 :: a8 :: B) w := Hp.pull (A := [a0, a1, a2, a3, a4, a5, a6, a7, a8]) h
theorem opStep.mapUpdate9 {κ ν : Type} {t : TypeId} {kf : κ → Value} {vf : ν → Value} [DecidableEq κ] {mt et : TypeId} {x y z : Operand} {b : Nat} {l : List (κ × ν)} {a0 a1 a2 a3 a4 a5 a6 a7 a8 : Res} {B : List Res} (K : KeyOk P t kf) (hm : P.underlying mt = some (.map t et)) (hp : Hp w0 M (a0 :: a1 :: a2 :: a3 :: a4 :: a5 :: a6 :: a7 :: a8 :: Res.mp b kf vf l :: B) w) (k : κ) (v : ν)
    (hx : (ev e x, ev e y, ev e z) = (.map (some b), kf k, vf v)) (h : ∀ w', Hp w0 M (a0 :: a1 :: a2 :: a3 :: a4 :: a5 :: a6 :: a7 :: a8 :: Res.mp b kf vf (mapPut l k v) :: B) w' → next e w') :
    opStep P N ops Q ⟨none, .mapUpdate mt x y z, ty, pos, af, none⟩ next e w := opStep.mapUpdate (A := [a0, a1, a2, a3, a4, a5, a6, a7, a8]) K hm hp k v hx h
theorem opStep.storeOwn9 {T E : TypeId} {x y : Operand} {sz n c : Nat} {a : Option Addr} {xs : List Value} {a0 a1 a2 a3 a4 a5 a6 a7 a8 : Res} {B : List Res} (p : Nat) (hp : Hp w0 M (a0 :: a1 :: a2 :: a3 :: a4 :: a5 :: a6 :: a7 :: a8 :: Res.own E sz (.slice a n c) n xs :: B) w) (hx : ev e x = .pointer (some ((adr a).add p))) (vs : List Value)
    (hc : ((ev e y).cells.toList, (P.info? T).map (·.size), vs.all (·.oneCell')) = (vs, some vs.length, true)) (h0 : 0 < vs.length) (hb : p + vs.length ≤ n * sz)
    (h : ∀ w', Hp w0 M (a0 :: a1 :: a2 :: a3 :: a4 :: a5 :: a6 :: a7 :: a8 :: Res.own E sz (.slice a n c) n (ow xs p vs) :: B) w' → next e w') :
    opStep P N ops Q ⟨none, .store T x y, ty, pos, af, none⟩ next e w := opStep.storeOwn (A := [a0, a1, a2, a3, a4, a5, a6, a7, a8]) p hp hx vs hc h0 hb h
theorem Hp.get10 {a0 a1 a2 a3 a4 a5 a6 a7 a8 a9 : Res} {s : Res} {B : List Res} (h : Hp w0 M (a0 :: a1 :: a2 :: a3 :: a4 :: a5 :: a6 :: a7 :: a8 :: a9 :: s :: B) w) : s.holds w := Hp.get (A := [a0, a1, a2, a3, a4, a5, a6, a7, a8, a9]) h
theorem Hp.lt10 {a0 a1 a2 a3 a4 a5 a6 a7 a8 a9 : Res} {s : Res} {B : List Res} (h : Hp w0 M (a0 :: a1 :: a2 :: a3 :: a4 :: a5 :: a6 :: a7 :: a8 :: a9 :: s :: B) w) (b : Nat) (hb : s.foot b) : b < w.heap.size := Hp.lt (A := [a0, a1, a2, a3, a4, a5, a6, a7, a8, a9]) h b hb
theorem Hp.ge10 {a0 a1 a2 a3 a4 a5 a6 a7 a8 a9 : Res} {s : Res} {B : List Res} (h : Hp w0 Non (a0 :: a1 :: a2 :: a3 :: a4 :: a5 :: a6 :: a7 :: a8 :: a9 :: s :: B) w) (b : Nat) (hb : s.foot b) : w0.heap.size ≤ b := Hp.ge (A := [a0, a1, a2, a3, a4, a5, a6, a7, a8, a9]) h b hb
theorem Hp.mod10 {a0 a1 a2 a3 a4 a5 a6 a7 a8 a9 : Res} {s : Res} {B : List Res} {w' : World} (h : Hp w0 M (a0 :: a1 :: a2 :: a3 :: a4 :: a5 :: a6 :: a7 :: a8 :: a9 :: s :: B) w) (hf : Fram s.foot w w') (r' : Res) (hr : r'.holds w') (hn : ∀ b, r'.foot b → b < w'.heap.size ∧ (s.foot b ∨ w.heap.size ≤ b)) : Hp w0 M (a0 :: a1 :: a2 :: a3 :: a4 :: a5 :: a6 :: a7 :: a8 :: a9 :: r' :: B) w' := Hp.mod (A := [a0, a1, a2, a3, a4, a5, a6, a7, a8, a9]) h hf r' hr hn
theorem Hp.turn10 {a0 a1 a2 a3 a4 a5 a6 a7 a8 a9 : Res} {s : Res} {B : List Res} (h : Hp w0 M (a0 :: a1 :: a2 :: a3 :: a4 :: a5 :: a6 :: a7 :: a8 :: a9 :: s :: B) w) (r' : Res) (hr : s.holds w → r'.holds w) (hn : ∀ b, r'.foot b → s.foot b) : Hp w0 M (a0 :: a1 :: a2 :: a3 :: a4 :: a5 :: a6 :: a7 :: a8 :: a9 :: r' :: B) w := Hp.turn (A := [a0, a1, a2, a3, a4, a5, a6, a7, a8, a9]) h r' hr hn
theorem opStep.store10 {T t : TypeId} {x y : Operand} {b o : Nat} {c : List Value} {a0 a1 a2 a3 a4 a5 a6 a7 a8 a9 : Res} {B : List Res} (hp : Hp w0 M (a0 :: a1 :: a2 :: a3 :: a4 :: a5 :: a6 :: a7 :: a8 :: a9 :: Res.row b c t :: B) w) (hx : ev e x = .pointer (some ⟨b, o, none⟩)) (vs c' : List Value)
    (hc : ((ev e y).cells.toList, (P.info? T).map (·.size), decide (o + vs.length ≤ c.length), ow c o vs, vs.all (·.oneCell')) = (vs, some vs.length, true, c', true))
    (h : ∀ w', Hp w0 M (a0 :: a1 :: a2 :: a3 :: a4 :: a5 :: a6 :: a7 :: a8 :: a9 :: Res.row b c' t :: B) w' → next e w') :
    opStep P N ops Q ⟨none, .store T x y, ty, pos, af, none⟩ next e w := opStep.store (A := [a0, a1, a2, a3, a4, a5, a6, a7, a8, a9]) hp hx vs c' hc h
theorem opStep.append10 {T E ty2 : TypeId} {s x : Operand} {a0 a1 a2 a3 a4 a5 a6 a7 a8 a9 : Res} {B : List Res} {sz n m c : Nat} {v : Value} {xs : List Value} {ad : Addr} (news : List Value) (hp : Hp w0 M (a0 :: a1 :: a2 :: a3 :: a4 :: a5 :: a6 :: a7 :: a8 :: a9 :: Res.own E sz v n xs :: B) w)
    (bytes : Nat) (hT : appInfo P T = some (E, sz, bytes))
    (hs : ev e s = v) (hx : ev e x = .slice (some ad) m c) (hl : news.length = m * sz) (hnews : ∀ j u, news[j]? = some u → w.cell? (ad.add j) = some u) (h1 : ∀ u ∈ news, u.oneCell' = true) (hsz : 0 < sz)
    (hb : (n + m) * bytes ≤ 140737488355328) (h63 : n + m ≤ 9223372036854775807)
    (h : ∀ a c' w', Hp w0 M (a0 :: a1 :: a2 :: a3 :: a4 :: a5 :: a6 :: a7 :: a8 :: a9 :: Res.own E sz (.slice a (n + m) c') (n + m) (xs ++ news) :: B) w' → (a = none ↔ v = .slice none 0 0 ∧ m = 0) → next (upd e d (.slice a (n + m) c')) w') :
    opStep P N ops Q ⟨some d, .call ⟨.builtin .append, #[s, x], #[T, T]⟩, ty2, pos, af, none⟩ next e w := by
  refine opStep.append (A := [a0, a1, a2, a3, a4, a5, a6, a7, a8, a9]) hp bytes hT hs hx hl hnews h1 hsz hb h63 ?_
  intro v' w' hp' hnil
  obtain ⟨a, c', rfl⟩ := own_slice (Hp.get (A := [a0, a1, a2, a3, a4, a5, a6, a7, a8, a9]) hp')
  refine h a c' w' hp' ?_
  constructor
  · rintro rfl
    exact hnil.1 (own_nil (Hp.get (A := [a0, a1, a2, a3, a4, a5, a6, a7, a8, a9]) hp'))
  · intro hh
    have := hnil.2 hh
    simp at this
    exact this.1
theorem Hp.pull10 {a0 a1 a2 a3 a4 a5 a6 a7 a8 a9 : Res} {s : Res} {B : List Res} (h : Hp w0 M (a0 :: a1 :: a2 :: a3 :: a4 :: a5 :: a6 :: a7 :: a8 :: a9 :: s :: B) w) : Hp w0 M (s :: a0 :: a1 :: a2 :: a3 :: a4 :: a5 :: a6 :: a7 :: a8 :: a9 :: B) w := Hp.pull (A := [a0, a1, a2, a3, a4, a5, a6, a7, a8, a9]) h
theorem opStep.mapUpdate10 {κ ν : Type} {t : TypeId} {kf : κ → Value} {vf : ν → Value} [DecidableEq κ] {mt et : TypeId} {x y z : Operand} {b : Nat} {l : List (κ × ν)} {a0 a1 a2 a3 a4 a5 a6 a7 a8 a9 : Res} {B : List Res} (K : KeyOk P t kf) (hm : P.underlying mt = some (.map t et)) (hp : Hp w0 M (a0 :: a1 :: a2 :: a3 :: a4 :: a5 :: a6 :: a7 :: a8 :: a9 :: Res.mp b kf vf l :: B) w) (k : κ) (v : ν)
    (hx : (ev e x, ev e y, ev e z) = (.map (some b), kf k, vf v)) (h : ∀ w', Hp w0 M (a0 :: a1 :: a2 :: a3 :: a4 :: a5 :: a6 :: a7 :: a8 :: a9 :: Res.mp b kf vf (mapPut l k v) :: B) w' → next e w') :
    opStep P N ops Q ⟨none, .mapUpdate mt x y z, ty, pos, af, none⟩ next e w := opStep.mapUpdate (A := [a0, a1, a2, a3, a4, a5, a6, a7, a8, a9]) K hm hp k v hx h
theorem opStep.storeOwn10 {T E : TypeId} {x y : Operand} {sz n c : Nat} {a : Option Addr} {xs : List Value} {a0 a1 a2 a3 a4 a5 a6 a7 a8 a9 : Res} {B : List Res} (p : Nat) (hp : Hp w0 M (a0 :: a1 :: a2 :: a3 :: a4 :: a5 :: a6 :: a7 :: a8 :: a9 :: Res.own E sz (.slice a n c) n xs :: B) w) (hx : ev e x = .pointer (some ((adr a).add p))) (vs : List Value)
    (hc : ((ev e y).cells.toList, (P.info? T).map (·.size), vs.all (·.oneCell')) = (vs, some vs.length, true)) (h0 : 0 < vs.length) (hb : p + vs.length ≤ n * sz)
    (h : ∀ w', Hp w0 M (a0 :: a1 :: a2 :: a3 :: a4 :: a5 :: a6 :: a7 :: a8 :: a9 :: Res.own E sz (.slice a n c) n (ow xs p vs) :: B) w' → next e w') :
    opStep P N ops Q ⟨none, .store T x y, ty, pos, af, none⟩ next e w := opStep.storeOwn (A := [a0, a1, a2, a3, a4, a5, a6, a7, a8, a9]) p hp hx vs hc h0 hb h
theorem Hp.get11 {a0 a1 a2 a3 a4 a5 a6 a7 a8 a9 a10 : Res} {s : Res} {B : List Res} (h : Hp w0 M (a0 :: a1 :: a2 :: a3 :: a4 :: a5 :: a6 :: a7 :: a8 :: a9 :: a10 :: s :: B) w) : s.holds w := Hp.get (A := [a0, a1, a2, a3, a4, a5, a6, a7, a8, a9, a10]) h
theorem Hp.lt11 {a0 a1 a2 a3 a4 a5 a6 a7 a8 a9 a10 : Res} {s : Res} {B : List Res} (h : Hp w0 M (a0 :: a1 :: a2 :: a3 :: a4 :: a5 :: a6 :: a7 :: a8 :: a9 :: a10 :: s :: B) w) (b : Nat) (hb : s.foot b) : b < w.heap.size := Hp.lt (A := [a0, a1, a2, a3, a4, a5, a6, a7, a8, a9, a10]) h b hb
theorem Hp.ge11 {a0 a1 a2 a3 a4 a5 a6 a7 a8 a9 a10 : Res} {s : Res} {B : List Res} (h : Hp w0 Non (a0 :: a1 :: a2 :: a3 :: a4 :: a5 :: a6 :: a7 :: a8 :: a9 :: a10 :: s :: B) w) (b : Nat) (hb : s.foot b) : w0.heap.size ≤ b := Hp.ge (A := [a0, a1, a2, a3, a4, a5, a6, a7, a8, a9, a10]) h b hb
theorem Hp.mod11 {a0 a1 a2 a3 a4 a5 a6 a7 a8 a9 a10 : Res} {s : Res} {B : List Res} {w' : World} (h : Hp w0 M (a0 :: a1 :: a2 :: a3 :: a4 :: a5 :: a6 :: a7 :: a8 :: a9 :: a10 :: s :: B) w) (hf : Fram s.foot w w') (r' : Res) (hr : r'.holds w') (hn : ∀ b, r'.foot b → b < w'.heap.size ∧ (s.foot b ∨ w.heap.size ≤ b)) : Hp w0 M (a0 :: a1 :: a2 :: a3 :: a4 :: a5 :: a6 :: a7 :: a8 :: a9 :: a10 :: r' :: B) w' := Hp.mod (A := [a0, a1, a2, a3, a4, a5, a6, a7, a8, a9, a10]) h hf r' hr hn
theorem Hp.turn11 {a0 a1 a2 a3 a4 a5 a6 a7 a8 a9 a10 : Res} {s : Res} {B : List Res} (h : Hp w0 M (a0 :: a1 :: a2 :: a3 :: a4 :: a5 :: a6 :: a7 :: a8 :: a9 :: a10 :: s :: B) w) (r' : Res) (hr : s.holds w → r'.holds w) (hn : ∀ b, r'.foot b → s.foot b) : Hp w0 M (a0 :: a1 :: a2 :: a3 :: a4 :: a5 :: a6 :: a7 :: a8 :: a9 :: a10 :: r' :: B) w := Hp.turn (A := [a0, a1, a2, a3, a4, a5, a6, a7, a8, a9, a10]) h r' hr hn
theorem opStep.store11 {T t : TypeId} {x y : Operand} {b o : Nat} {c : List Value} {a0 a1 a2 a3 a4 a5 a6 a7 a8 a9 a10 : Res} {B : List Res} (hp : Hp w0 M (a0 :: a1 :: a2 :: a3 :: a4 :: a5 :: a6 :: a7 :: a8 :: a9 :: a10 :: Res.row b c t :: B) w) (hx : ev e x = .pointer (some ⟨b, o, none⟩)) (vs c' : List Value)
    (hc : ((ev e y).cells.toList, (P.info? T).map (·.size), decide (o + vs.length ≤ c.length), ow c o vs, vs.all (·.oneCell')) = (vs, some vs.length, true, c', true))
    (h : ∀ w', Hp w0 M (a0 :: a1 :: a2 :: a3 :: a4 :: a5 :: a6 :: a7 :: a8 :: a9 :: a10 :: Res.row b c' t :: B) w' → next e w') :
    opStep P N ops Q ⟨none, .store T x y, ty, pos, af, none⟩ next e w := opStep.store (A := [a0, a1, a2, a3, a4, a5, a6, a7, a8, a9, a10]) hp hx vs c' hc h
theorem opStep.append11 {T E ty2 : TypeId} {s x : Operand} {a0 a1 a2 a3 a4 a5 a6 a7 a8 a9 a10 : Res} {B : List Res} {sz n m c : Nat} {v : Value} {xs : List Value} {ad : Addr} (news : List Value) (hp : Hp w0 M (a0 :: a1 :: a2 :: a3 :: a4 :: a5 :: a6 :: a7 :: a8 :: a9 :: a10 :: Res.own E sz v n xs :: B) w)
    (bytes : Nat) (hT : appInfo P T = some (E, sz, bytes))
    (hs : ev e s = v) (hx : ev e x = .slice (some ad) m c) (hl : news.length = m * sz) (hnews : ∀ j u, news[j]? = some u → w.cell? (ad.add j) = some u) (h1 : ∀ u ∈ news, u.oneCell' = true) (hsz : 0 < sz)
    (hb : (n + m) * bytes ≤ 140737488355328) (h63 : n + m ≤ 9223372036854775807)
    (h : ∀ a c' w', Hp w0 M (a0 :: a1 :: a2 :: a3 :: a4 :: a5 :: a6 :: a7 :: a8 :: a9 :: a10 :: Res.own E sz (.slice a (n + m) c') (n + m) (xs ++ news) :: B) w' → (a = none ↔ v = .slice none 0 0 ∧ m = 0) → next (upd e d (.slice a (n + m) c')) w') :
    opStep P N ops Q ⟨some d, .call ⟨.builtin .append, #[s, x], #[T, T]⟩, ty2, pos, af, none⟩ next e w := by
  refine opStep.append (A := [a0, a1, a2, a3, a4, a5, a6, a7, a8, a9, a10]) hp bytes hT hs hx hl hnews h1 hsz hb h63 ?_
  intro v' w' hp' hnil
  obtain ⟨a, c', rfl⟩ := own_slice (Hp.get (A := [a0, a1, a2, a3, a4, a5, a6, a7, a8, a9, a10]) hp')
  refine h a c' w' hp' ?_
  constructor
  · rintro rfl
    exact hnil.1 (own_nil (Hp.get (A := [a0, a1, a2, a3, a4, a5, a6, a7, a8, a9, a10]) hp'))
  · intro hh
    have := hnil.2 hh
    simp at this
    exact this.1
theorem Hp.pull11 {a0 a1 a2 a3 a4 a5 a6 a7 a8 a9 a10 : Res} {s : Res} {B : List Res} (h : Hp w0 M (a0 :: a1 :: a2 :: a3 :: a4 :: a5 :: a6 :: a7 :: a8 :: a9 :: a10 :: s :: B) w) : Hp w0 M (s :: a0 :: a1 :: a2 :: a3 :: a4 :: a5 :: a6 :: a7 :: a8 :: a9 :: a10 :: B) w := Hp.pull (A := [a0, a1, a2, a3, a4, a5, a6, a7, a8, a9, a10]) h
theorem opStep.mapUpdate11 {κ ν : Type} {t : TypeId} {kf : κ → Value} {vf : ν → Value} [DecidableEq κ] {mt et : TypeId} {x y z : Operand} {b : Nat} {l : List (κ × ν)} {a0 a1 a2 a3 a4 a5 a6 a7 a8 a9 a10 : Res} {B : List Res} (K : KeyOk P t kf) (hm : P.underlying mt = some (.map t et)) (hp : Hp w0 M (a0 :: a1 :: a2 :: a3 :: a4 :: a5 :: a6 :: a7 :: a8 :: a9 :: a10 :: Res.mp b kf vf l :: B) w) (k : κ) (v : ν)
    (hx : (ev e x, ev e y, ev e z) = (.map (some b), kf k, vf v)) (h : ∀ w', Hp w0 M (a0 :: a1 :: a2 :: a3 :: a4 :: a5 :: a6 :: a7 :: a8 :: a9 :: a10 :: Res.mp b kf vf (mapPut l k v) :: B) w' → next e w') :
    opStep P N ops Q ⟨none, .mapUpdate mt x y z, ty, pos, af, none⟩ next e w := opStep.mapUpdate (A := [a0, a1, a2, a3, a4, a5, a6, a7, a8, a9, a10]) K hm hp k v hx h
theorem opStep.storeOwn11 {T E : TypeId} {x y : Operand} {sz n c : Nat} {a : Option Addr} {xs : List Value} {a0 a1 a2 a3 a4 a5 a6 a7 a8 a9 a10 : Res} {B : List Res} (p : Nat) (hp : Hp w0 M (a0 :: a1 :: a2 :: a3 :: a4 :: a5 :: a6 :: a7 :: a8 :: a9 :: a10 :: Res.own E sz (.slice a n c) n xs :: B) w) (hx : ev e x = .pointer (some ((adr a).add p))) (vs : List Value)
    (hc : ((ev e y).cells.toList, (P.info? T).map (·.size), vs.all (·.oneCell')) = (vs, some vs.length, true)) (h0 : 0 < vs.length) (hb : p + vs.length ≤ n * sz)
    (h : ∀ w', Hp w0 M (a0 :: a1 :: a2 :: a3 :: a4 :: a5 :: a6 :: a7 :: a8 :: a9 :: a10 :: Res.own E sz (.slice a n c) n (ow xs p vs) :: B) w' → next e w') :
    opStep P N ops Q ⟨none, .store T x y, ty, pos, af, none⟩ next e w := opStep.storeOwn (A := [a0, a1, a2, a3, a4, a5, a6, a7, a8, a9, a10]) p hp hx vs hc h0 hb h
end
end Go.Proofs.YtbpedjefoajegaaDoor.K
