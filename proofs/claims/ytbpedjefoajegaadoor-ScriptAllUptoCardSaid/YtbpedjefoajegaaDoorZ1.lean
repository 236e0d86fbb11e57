/- Texts of this claim, merged: what the program's functions compute, and the rules that the walks use. -/
import Derived.OrdersHeld
import Derived.Deep.Quiet
import Derived.Test.YtbpedjefoajegaaDoorProg
import Derived.WalkKit
import Derived.ProofKit
import Derived.OpenShut
import Derived.ShutString
import Derived.ChangeOld
import Derived.Below
import Derived.SizedLaws
import Derived.Laws.BytesString
import Derived.Lib.ItoaNum
import Derived.Lib.ItoaMem
import Derived.Lib.ParseIntB
import Derived.Lib.ParseIntBTie
import Derived.Lib.ItoaLen
import Derived.Lib.AtoiAllCases
import Derived.Lib.IndexMore
import Derived.Lib.SplitLaws
import Derived.Shelf.Strconv.Itoa3
import Derived.Shelf.Strconv.AtoiAll
import Derived.Lib.SmallJoins
import Derived.Test.YtbpedjefoajegaaDoorZ0
namespace Go.Proofs.YtbpedjefoajegaaDoor.K
open Go Go.RowKit
section
variable {P : Program} {N : Nat} {ops : Array Oper} {Q : Post} {next : Env → World → Prop} {e : Env} {w w0 : World} {M : Nat → Prop} {ty : TypeId} {pos : String} {af : Array Edge} {d : Nat}
theorem Hp.get0 {s : Res} {B : List Res} (h : Hp w0 M (s :: B) w) : s.holds w := Hp.get (A := []) h
theorem Hp.lt0 {s : Res} {B : List Res} (h : Hp w0 M (s :: B) w) (b : Nat) (hb : s.foot b) : b < w.heap.size := Hp.lt (A := []) h b hb
theorem Hp.turn0 {s : Res} {B : List Res} (h : Hp w0 M (s :: B) w) (r' : Res) (hr : s.holds w → r'.holds w) (hn : ∀ b, r'.foot b → s.foot b) : Hp w0 M (r' :: B) w := Hp.turn (A := []) h r' hr hn
theorem opStep.store0 {T t : TypeId} {x y : Operand} {b o : Nat} {c : List Value} {B : List Res} (hp : Hp w0 M (Res.row b c t :: B) w) (hx : ev e x = .pointer (some ⟨b, o, none⟩)) (vs c' : List Value)
    (hc : ((ev e y).cells.toList, (P.info? T).map (·.size), decide (o + vs.length ≤ c.length), ow c o vs, vs.all (·.oneCell')) = (vs, some vs.length, true, c', true))
    (h : ∀ w', Hp w0 M (Res.row b c' t :: B) w' → next e w') :
    opStep P N ops Q ⟨none, .store T x y, ty, pos, af, none⟩ next e w := opStep.store (A := []) hp hx vs c' hc h
theorem opStep.append0 {T E ty2 : TypeId} {s x : Operand} {B : List Res} {sz n m c : Nat} {v : Value} {xs : List Value} {ad : Addr} (news : List Value) (hp : Hp w0 M (Res.own E sz v n xs :: B) w)
    (bytes : Nat) (hT : appInfo P T = some (E, sz, bytes))
    (hs : ev e s = v) (hx : ev e x = .slice (some ad) m c) (hl : news.length = m * sz) (hnews : ∀ j u, news[j]? = some u → w.cell? (ad.add j) = some u) (h1 : ∀ u ∈ news, u.oneCell' = true) (hsz : 0 < sz)
    (hb : (n + m) * bytes ≤ 140737488355328) (h63 : n + m ≤ 9223372036854775807)
    (h : ∀ a c' w', Hp w0 M (Res.own E sz (.slice a (n + m) c') (n + m) (xs ++ news) :: B) w' → (a = none ↔ v = .slice none 0 0 ∧ m = 0) → next (upd e d (.slice a (n + m) c')) w') :
    opStep P N ops Q ⟨some d, .call ⟨.builtin .append, #[s, x], #[T, T]⟩, ty2, pos, af, none⟩ next e w := by
  refine opStep.append (A := []) hp bytes hT hs hx hl hnews h1 hsz hb h63 ?_
  intro v' w' hp' hnil
  obtain ⟨a, c', rfl⟩ := own_slice (Hp.get (A := []) hp')
  refine h a c' w' hp' ?_
  constructor
  · rintro rfl
    exact hnil.1 (own_nil (Hp.get (A := []) hp'))
  · intro hh
    have := hnil.2 hh
    simp at this
    exact this.1
theorem Hp.pull0 {s : Res} {B : List Res} (h : Hp w0 M (s :: B) w) : Hp w0 M (s :: B) w := Hp.pull (A := []) h
theorem Hp.get1 {a0 : Res} {s : Res} {B : List Res} (h : Hp w0 M (a0 :: s :: B) w) : s.holds w := Hp.get (A := [a0]) h
theorem Hp.lt1 {a0 : Res} {s : Res} {B : List Res} (h : Hp w0 M (a0 :: s :: B) w) (b : Nat) (hb : s.foot b) : b < w.heap.size := Hp.lt (A := [a0]) h b hb
theorem Hp.turn1 {a0 : Res} {s : Res} {B : List Res} (h : Hp w0 M (a0 :: s :: B) w) (r' : Res) (hr : s.holds w → r'.holds w) (hn : ∀ b, r'.foot b → s.foot b) : Hp w0 M (a0 :: r' :: B) w := Hp.turn (A := [a0]) h r' hr hn
theorem opStep.store1 {T t : TypeId} {x y : Operand} {b o : Nat} {c : List Value} {a0 : Res} {B : List Res} (hp : Hp w0 M (a0 :: Res.row b c t :: B) w) (hx : ev e x = .pointer (some ⟨b, o, none⟩)) (vs c' : List Value)
    (hc : ((ev e y).cells.toList, (P.info? T).map (·.size), decide (o + vs.length ≤ c.length), ow c o vs, vs.all (·.oneCell')) = (vs, some vs.length, true, c', true))
    (h : ∀ w', Hp w0 M (a0 :: Res.row b c' t :: B) w' → next e w') :
    opStep P N ops Q ⟨none, .store T x y, ty, pos, af, none⟩ next e w := opStep.store (A := [a0]) hp hx vs c' hc h
theorem opStep.append1 {T E ty2 : TypeId} {s x : Operand} {a0 : Res} {B : List Res} {sz n m c : Nat} {v : Value} {xs : List Value} {ad : Addr} (news : List Value) (hp : Hp w0 M (a0 :: Res.own E sz v n xs :: B) w)
    (bytes : Nat) (hT : appInfo P T = some (E, sz, bytes))
    (hs : ev e s = v) (hx : ev e x = .slice (some ad) m c) (hl : news.length = m * sz) (hnews : ∀ j u, news[j]? = some u → w.cell? (ad.add j) = some u) (h1 : ∀ u ∈ news, u.oneCell' = true) (hsz : 0 < sz)
    (hb : (n + m) * bytes ≤ 140737488355328) (h63 : n + m ≤ 9223372036854775807)
    (h : ∀ a c' w', Hp w0 M (a0 :: Res.own E sz (.slice a (n + m) c') (n + m) (xs ++ news) :: B) w' → (a = none ↔ v = .slice none 0 0 ∧ m = 0) → next (upd e d (.slice a (n + m) c')) w') :
    opStep P N ops Q ⟨some d, .call ⟨.builtin .append, #[s, x], #[T, T]⟩, ty2, pos, af, none⟩ next e w := by
  refine opStep.append (A := [a0]) hp bytes hT hs hx hl hnews h1 hsz hb h63 ?_
  intro v' w' hp' hnil
  obtain ⟨a, c', rfl⟩ := own_slice (Hp.get (A := [a0]) hp')
  refine h a c' w' hp' ?_
  constructor
  · rintro rfl
    exact hnil.1 (own_nil (Hp.get (A := [a0]) hp'))
  · intro hh
    have := hnil.2 hh
    simp at this
    exact this.1
theorem Hp.pull1 {a0 : Res} {s : Res} {B : List Res} (h : Hp w0 M (a0 :: s :: B) w) : Hp w0 M (s :: a0 :: B) w := Hp.pull (A := [a0]) h
theorem Hp.get2 {a0 a1 : Res} {s : Res} {B : List Res} (h : Hp w0 M (a0 :: a1 :: s :: B) w) : s.holds w := Hp.get (A := [a0, a1]) h
theorem opStep.store2 {T t : TypeId} {x y : Operand} {b o : Nat} {c : List Value} {a0 a1 : Res} {B : List Res} (hp : Hp w0 M (a0 :: a1 :: Res.row b c t :: B) w) (hx : ev e x = .pointer (some ⟨b, o, none⟩)) (vs c' : List Value)
    (hc : ((ev e y).cells.toList, (P.info? T).map (·.size), decide (o + vs.length ≤ c.length), ow c o vs, vs.all (·.oneCell')) = (vs, some vs.length, true, c', true))
    (h : ∀ w', Hp w0 M (a0 :: a1 :: Res.row b c' t :: B) w' → next e w') :
    opStep P N ops Q ⟨none, .store T x y, ty, pos, af, none⟩ next e w := opStep.store (A := [a0, a1]) hp hx vs c' hc h
theorem opStep.append2 {T E ty2 : TypeId} {s x : Operand} {a0 a1 : Res} {B : List Res} {sz n m c : Nat} {v : Value} {xs : List Value} {ad : Addr} (news : List Value) (hp : Hp w0 M (a0 :: a1 :: Res.own E sz v n xs :: B) w)
    (bytes : Nat) (hT : appInfo P T = some (E, sz, bytes))
    (hs : ev e s = v) (hx : ev e x = .slice (some ad) m c) (hl : news.length = m * sz) (hnews : ∀ j u, news[j]? = some u → w.cell? (ad.add j) = some u) (h1 : ∀ u ∈ news, u.oneCell' = true) (hsz : 0 < sz)
    (hb : (n + m) * bytes ≤ 140737488355328) (h63 : n + m ≤ 9223372036854775807)
    (h : ∀ a c' w', Hp w0 M (a0 :: a1 :: Res.own E sz (.slice a (n + m) c') (n + m) (xs ++ news) :: B) w' → (a = none ↔ v = .slice none 0 0 ∧ m = 0) → next (upd e d (.slice a (n + m) c')) w') :
    opStep P N ops Q ⟨some d, .call ⟨.builtin .append, #[s, x], #[T, T]⟩, ty2, pos, af, none⟩ next e w := by
  refine opStep.append (A := [a0, a1]) hp bytes hT hs hx hl hnews h1 hsz hb h63 ?_
  intro v' w' hp' hnil
  obtain ⟨a, c', rfl⟩ := own_slice (Hp.get (A := [a0, a1]) hp')
  refine h a c' w' hp' ?_
  constructor
  · rintro rfl
    exact hnil.1 (own_nil (Hp.get (A := [a0, a1]) hp'))
  · intro hh
    have := hnil.2 hh
    simp at this
    exact this.1
theorem Hp.pull2 {a0 a1 : Res} {s : Res} {B : List Res} (h : Hp w0 M (a0 :: a1 :: s :: B) w) : Hp w0 M (s :: a0 :: a1 :: B) w := Hp.pull (A := [a0, a1]) h
theorem Hp.get3 {a0 a1 a2 : Res} {s : Res} {B : List Res} (h : Hp w0 M (a0 :: a1 :: a2 :: s :: B) w) : s.holds w := Hp.get (A := [a0, a1, a2]) h
theorem opStep.store3 {T t : TypeId} {x y : Operand} {b o : Nat} {c : List Value} {a0 a1 a2 : Res} {B : List Res} (hp : Hp w0 M (a0 :: a1 :: a2 :: Res.row b c t :: B) w) (hx : ev e x = .pointer (some ⟨b, o, none⟩)) (vs c' : List Value)
    (hc : ((ev e y).cells.toList, (P.info? T).map (·.size), decide (o + vs.length ≤ c.length), ow c o vs, vs.all (·.oneCell')) = (vs, some vs.length, true, c', true))
    (h : ∀ w', Hp w0 M (a0 :: a1 :: a2 :: Res.row b c' t :: B) w' → next e w') :
    opStep P N ops Q ⟨none, .store T x y, ty, pos, af, none⟩ next e w := opStep.store (A := [a0, a1, a2]) hp hx vs c' hc h
theorem opStep.append3 {T E ty2 : TypeId} {s x : Operand} {a0 a1 a2 : Res} {B : List Res} {sz n m c : Nat} {v : Value} {xs : List Value} {ad : Addr} (news : List Value) (hp : Hp w0 M (a0 :: a1 :: a2 :: Res.own E sz v n xs :: B) w)
    (bytes : Nat) (hT : appInfo P T = some (E, sz, bytes))
    (hs : ev e s = v) (hx : ev e x = .slice (some ad) m c) (hl : news.length = m * sz) (hnews : ∀ j u, news[j]? = some u → w.cell? (ad.add j) = some u) (h1 : ∀ u ∈ news, u.oneCell' = true) (hsz : 0 < sz)
    (hb : (n + m) * bytes ≤ 140737488355328) (h63 : n + m ≤ 9223372036854775807)
    (h : ∀ a c' w', Hp w0 M (a0 :: a1 :: a2 :: Res.own E sz (.slice a (n + m) c') (n + m) (xs ++ news) :: B) w' → (a = none ↔ v = .slice none 0 0 ∧ m = 0) → next (upd e d (.slice a (n + m) c')) w') :
    opStep P N ops Q ⟨some d, .call ⟨.builtin .append, #[s, x], #[T, T]⟩, ty2, pos, af, none⟩ next e w := by
  refine opStep.append (A := [a0, a1, a2]) hp bytes hT hs hx hl hnews h1 hsz hb h63 ?_
  intro v' w' hp' hnil
  obtain ⟨a, c', rfl⟩ := own_slice (Hp.get (A := [a0, a1, a2]) hp')
  refine h a c' w' hp' ?_
  constructor
  · rintro rfl
    exact hnil.1 (own_nil (Hp.get (A := [a0, a1, a2]) hp'))
  · intro hh
    have := hnil.2 hh
    simp at this
    exact this.1
theorem Hp.pull3 {a0 a1 a2 : Res} {s : Res} {B : List Res} (h : Hp w0 M (a0 :: a1 :: a2 :: s :: B) w) : Hp w0 M (s :: a0 :: a1 :: a2 :: B) w := Hp.pull (A := [a0, a1, a2]) h
theorem Hp.get4 {a0 a1 a2 a3 : Res} {s : Res} {B : List Res} (h : Hp w0 M (a0 :: a1 :: a2 :: a3 :: s :: B) w) : s.holds w := Hp.get (A := [a0, a1, a2, a3]) h
theorem opStep.store4 {T t : TypeId} {x y : Operand} {b o : Nat} {c : List Value} {a0 a1 a2 a3 : Res} {B : List Res} (hp : Hp w0 M (a0 :: a1 :: a2 :: a3 :: Res.row b c t :: B) w) (hx : ev e x = .pointer (some ⟨b, o, none⟩)) (vs c' : List Value)
    (hc : ((ev e y).cells.toList, (P.info? T).map (·.size), decide (o + vs.length ≤ c.length), ow c o vs, vs.all (·.oneCell')) = (vs, some vs.length, true, c', true))
    (h : ∀ w', Hp w0 M (a0 :: a1 :: a2 :: a3 :: Res.row b c' t :: B) w' → next e w') :
    opStep P N ops Q ⟨none, .store T x y, ty, pos, af, none⟩ next e w := opStep.store (A := [a0, a1, a2, a3]) hp hx vs c' hc h
theorem Hp.pull4 {a0 a1 a2 a3 : Res} {s : Res} {B : List Res} (h : Hp w0 M (a0 :: a1 :: a2 :: a3 :: s :: B) w) : Hp w0 M (s :: a0 :: a1 :: a2 :: a3 :: B) w := Hp.pull (A := [a0, a1, a2, a3]) h
theorem Hp.get5 {a0 a1 a2 a3 a4 : Res} {s : Res} {B : List Res} (h : Hp w0 M (a0 :: a1 :: a2 :: a3 :: a4 :: s :: B) w) : s.holds w := Hp.get (A := [a0, a1, a2, a3, a4]) h
theorem opStep.store5 {T t : TypeId} {x y : Operand} {b o : Nat} {c : List Value} {a0 a1 a2 a3 a4 : Res} {B : List Res} (hp : Hp w0 M (a0 :: a1 :: a2 :: a3 :: a4 :: Res.row b c t :: B) w) (hx : ev e x = .pointer (some ⟨b, o, none⟩)) (vs c' : List Value)
    (hc : ((ev e y).cells.toList, (P.info? T).map (·.size), decide (o + vs.length ≤ c.length), ow c o vs, vs.all (·.oneCell')) = (vs, some vs.length, true, c', true))
    (h : ∀ w', Hp w0 M (a0 :: a1 :: a2 :: a3 :: a4 :: Res.row b c' t :: B) w' → next e w') :
    opStep P N ops Q ⟨none, .store T x y, ty, pos, af, none⟩ next e w := opStep.store (A := [a0, a1, a2, a3, a4]) hp hx vs c' hc h
theorem Hp.pull5 {a0 a1 a2 a3 a4 : Res} {s : Res} {B : List Res} (h : Hp w0 M (a0 :: a1 :: a2 :: a3 :: a4 :: s :: B) w) : Hp w0 M (s :: a0 :: a1 :: a2 :: a3 :: a4 :: B) w := Hp.pull (A := [a0, a1, a2, a3, a4]) h
theorem Hp.get6 {a0 a1 a2 a3 a4 a5 : Res} {s : Res} {B : List Res} (h : Hp w0 M (a0 :: a1 :: a2 :: a3 :: a4 :: a5 :: s :: B) w) : s.holds w := Hp.get (A := [a0, a1, a2, a3, a4, a5]) h
theorem opStep.store6 {T t : TypeId} {x y : Operand} {b o : Nat} {c : List Value} {a0 a1 a2 a3 a4 a5 : Res} {B : List Res} (hp : Hp w0 M (a0 :: a1 :: a2 :: a3 :: a4 :: a5 :: Res.row b c t :: B) w) (hx : ev e x = .pointer (some ⟨b, o, none⟩)) (vs c' : List Value)
    (hc : ((ev e y).cells.toList, (P.info? T).map (·.size), decide (o + vs.length ≤ c.length), ow c o vs, vs.all (·.oneCell')) = (vs, some vs.length, true, c', true))
    (h : ∀ w', Hp w0 M (a0 :: a1 :: a2 :: a3 :: a4 :: a5 :: Res.row b c' t :: B) w' → next e w') :
    opStep P N ops Q ⟨none, .store T x y, ty, pos, af, none⟩ next e w := opStep.store (A := [a0, a1, a2, a3, a4, a5]) hp hx vs c' hc h
theorem Hp.pull6 {a0 a1 a2 a3 a4 a5 : Res} {s : Res} {B : List Res} (h : Hp w0 M (a0 :: a1 :: a2 :: a3 :: a4 :: a5 :: s :: B) w) : Hp w0 M (s :: a0 :: a1 :: a2 :: a3 :: a4 :: a5 :: B) w := Hp.pull (A := [a0, a1, a2, a3, a4, a5]) h
theorem Hp.get7 {a0 a1 a2 a3 a4 a5 a6 : Res} {s : Res} {B : List Res} (h : Hp w0 M (a0 :: a1 :: a2 :: a3 :: a4 :: a5 :: a6 :: s :: B) w) : s.holds w := Hp.get (A := [a0, a1, a2, a3, a4, a5, a6]) h
theorem opStep.store7 {T t : TypeId} {x y : Operand} {b o : Nat} {c : List Value} {a0 a1 a2 a3 a4 a5 a6 : Res} {B : List Res} (hp : Hp w0 M (a0 :: a1 :: a2 :: a3 :: a4 :: a5 :: a6 :: Res.row b c t :: B) w) (hx : ev e x = .pointer (some ⟨b, o, none⟩)) (vs c' : List Value)
    (hc : ((ev e y).cells.toList, (P.info? T).map (·.size), decide (o + vs.length ≤ c.length), ow c o vs, vs.all (·.oneCell')) = (vs, some vs.length, true, c', true))
    (h : ∀ w', Hp w0 M (a0 :: a1 :: a2 :: a3 :: a4 :: a5 :: a6 :: Res.row b c' t :: B) w' → next e w') :
    opStep P N ops Q ⟨none, .store T x y, ty, pos, af, none⟩ next e w := opStep.store (A := [a0, a1, a2, a3, a4, a5, a6]) hp hx vs c' hc h
theorem Hp.pull7 {a0 a1 a2 a3 a4 a5 a6 : Res} {s : Res} {B : List Res} (h : Hp w0 M (a0 :: a1 :: a2 :: a3 :: a4 :: a5 :: a6 :: s :: B) w) : Hp w0 M (s :: a0 :: a1 :: a2 :: a3 :: a4 :: a5 :: a6 :: B) w := Hp.pull (A := [a0, a1, a2, a3, a4, a5, a6]) h
theorem Hp.pull8 {a0 a1 a2 a3 a4 a5 a6 a7 : Res} {s : Res} {B : List Res} (h : Hp w0 M (a0 :: a1 :: a2 :: a3 :: a4 :: a5 :: a6 :: a7 :: s :: B) w) : Hp w0 M (s :: a0 :: a1 :: a2 :: a3 :: a4 :: a5 :: a6 :: a7 :: B) w := Hp.pull (A := [a0, a1, a2, a3, a4, a5, a6, a7]) h
end
end Go.Proofs.YtbpedjefoajegaaDoor.K
namespace Go.Proofs.YtbpedjefoajegaaDoor.K
open Go Go.RowKit

def NoPanic (Q : Post) : Prop := ∀ c e w, ¬ Q (.panic c) e w
theorem np_body {P : Program} {fn : Func} {R : Ending → World → Prop} : NoPanic (bodyQ P fn R) := fun _ _ _ h => h
theorem np_thn {K : Env → World → Prop} {Q : Post} (h : NoPanic Q) : NoPanic (thn K Q) := fun c e w hq => h c e w hq
theorem np_blk {i : Nat} {Q : Post} (h : NoPanic Q) : NoPanic (inBlock i Q) := fun c e w hq => h c e w hq

theorem pureOp0_w (P : Program) (w w' : World) (H : Hints) (e : Env) (ls : List Value) (o : Oper) :
    (pureOp0 P w H e ls o).map (fun x => (x.1, x.2.2)) = (pureOp0 P w' H e ls o).map (fun x => (x.1, x.2.2)) := by
  obtain ⟨dst, op, type, pos, after, guard⟩ := o
  cases op <;> simp only [pureOp0, builtinV] <;> (try rfl) <;> (repeat' split) <;> (first | rfl | simp_all)
theorem pureOp_w (P : Program) (w w' : World) (H : Hints) (e : Env) (ls : List Value) (o : Oper) :
    (pureOp P w H e ls o).map (fun x => (x.1, x.2.2)) = (pureOp P w' H e ls o).map (fun x => (x.1, x.2.2)) := by
  have h := pureOp0_w P w w' H e ls o
  unfold pureOp
  cases h1 : pureOp0 P w H e ls o with
  | none =>
    cases h2 : pureOp0 P w' H e ls o with
    | none => rfl
    | some y => simp [h1, h2] at h
  | some x =>
    cases h2 : pureOp0 P w' H e ls o with
    | none => simp [h1, h2] at h
    | some y =>
      obtain ⟨v, vc, l⟩ := x
      obtain ⟨v', vc', l'⟩ := y
      simp [h1, h2] at h
      obtain ⟨rfl, rfl⟩ := h
      dsimp only
      split
      · split <;> rfl
      · rfl
theorem pureOp_same {P : Program} {w w' : World} {H : Hints} {e : Env} {ls l1 l2 : List Value} {o : Oper} {v v' : Value} {vc vc' : List Prop}
    (h : pureOp P w H e ls o = some (v, vc, l1)) (h' : pureOp P w' H e ls o = some (v', vc', l2)) : v = v' ∧ l1 = l2 := by
  have := pureOp_w P w w' H e ls o
  rw [h, h'] at this
  simpa using this
theorem runB_same {P : Program} {w w' : World} {H : Hints} {ops : Array Oper} {N : Nat} : ∀ {l : List Oper} {e e1 e2 : Env} {ls : List Value} {vc vc' : List Prop},
    runB P w H ops N l e ls = some (e1, vc) → runB P w' H ops N l e ls = some (e2, vc') → e1 = e2
  | [], _, _, _, _, _, _, h, h' => by simp [runB] at h h'; rw [← h.1, ← h'.1]
  | o :: l, e, e1, e2, ls, vc, vc', h, h' => by
    unfold runB at h h'
    split at h
    · rename_i hg
      rw [hg] at h'
      simp only at h'
      split at h
      · rename_i v vc1 ls1 hp
        split at h'
        · rename_i v2 vc2 ls2 hp2
          obtain ⟨rfl, rfl⟩ := pureOp_same hp hp2
          split at h
          · rename_i ea va hr
            split at h'
            · rename_i eb vb hr2
              simp at h h'
              rw [← h.1, ← h'.1]
              exact runB_same hr hr2
            · simp at h'
          · simp at h
        · simp at h'
      · simp at h
    · rename_i hg
      rw [hg] at h'
      exact runB_same h h'
    · simp at h

/-! ### (1) -/
def QOPS (P : Program) (N : Nat) (ops : Array Oper) (C : World → Prop) (Q : Post) : List Oper → Env → Prop
  | [], e => ∀ w, C w → Q .normal e w
  | o :: r, e => ∀ a, Is N a e → dstOk N o.dst = true →
    if Region.wanted o (yielded ops a.tmps) then ∃ v, (∀ w, C w → o.quietAt P a C w v) ∧ QOPS P N ops C Q r (put e o.dst v) else QOPS P N ops C Q r (put e o.dst undef)

theorem QOPS.sound {P : Program} {N : Nat} {ops : Array Oper} {C : World → Prop} {Q : Post} : ∀ (l : List Oper) (e : Env) (a : Act), (l.all fun o => dstOk N o.dst) = true → Is N a e → QOPS P N ops C Q l e →
    wpQuiet P ops C (fun a' => ∀ w, C w → lift N Q .normal a' w) l a
  | [], e, a, _, ha, h => fun w hw => ⟨e, ha, h w hw⟩
  | o :: r, e, a, hl, ha, h => by
    simp only [List.all_cons, Bool.and_eq_true] at hl
    have h' := h a ha hl.1
    unfold wpQuiet
    split
    · rename_i hw
      rw [if_pos hw] at h'
      obtain ⟨v, hv, hn⟩ := h'
      exact ⟨v, hv, QOPS.sound r _ _ hl.2 (ha.put _ _ hl.1) hn⟩
    · rename_i hw
      rw [if_neg hw] at h'
      exact QOPS.sound r _ _ hl.2 (ha.put _ _ hl.1) h'

theorem WP.quiet {P : Program} {N : Nat} {Q : Post} {e : Env} {w : World} {id : Nat} {ops : Array Oper} (C : World → Prop)
    (hB : (P.follows .mixedOrders, Region.lexB .any ops, ops.toList.all fun o => dstOk N o.dst) = (true, true, true)) (hC : C w.drew) (h : QOPS P N ops C Q ops.toList e) : WP P N (.region id ops true) Q e w := by
  simp only [Prod.mk.injEq] at hB
  intro a ha
  exact wp_region_quiet hB.1 hB.2.1 hC (QOPS.sound _ _ _ hB.2.2 ha h)

section
variable {P : Program} {N : Nat} {ops : Array Oper} {C : World → Prop} {Q : Post} {e : Env} {r : List Oper}

def QB (P : Program) (w : World) (H : Hints) (ops : Array Oper) (N : Nat) (l : List Oper) (e : Env) (ls : List Value) (live : List Nat) (vs : List Value) : Prop :=
  ∃ vc, All vc ∧ batch P w H ops N l e ls live = some (vs, vc)
theorem QB.mk {w : World} {H : Hints} {l : List Oper} {ls : List Value} {live : List Nat} {vs : List Value} {vc : List Prop} (pf : Prf vc) (h : batch P w H ops N l e ls live = some (vs, vc)) : QB P w H ops N l e ls live vs := ⟨vc, pf.all, h⟩

theorem QOPS.val1 {o : Oper} {v : Value} (hg : guardB ops N e o = some true) (hr : ∀ w, C w → (execOp (ev e) { o with guard := none }).run P w = .ok (.value v) w) (h : QOPS P N ops C Q r (put e o.dst v)) : QOPS P N ops C Q (o :: r) e := by
  intro a ha hd
  have hx : execOp a.eval o = execOp (ev e) { o with guard := none } := by rw [ha.eval]; rfl
  have hw : Region.wanted o (yielded ops a.tmps) = true := wanted_of ha hg
  rw [if_pos hw]
  exact ⟨v, fun w hC => by unfold Oper.quietAt; rw [hx, hr w hC]; exact ⟨rfl, rfl⟩, h⟩
where
  wanted_of {N : Nat} {ops : Array Oper} {e : Env} {o : Oper} {a : Act} {b : Bool} (ha : Is N a e) (hg : guardB ops N e o = some b) : Region.wanted o (yielded ops a.tmps) = b := by
    unfold guardB at hg
    unfold Region.wanted
    split at hg
    · rename_i hn; rw [hn]; simpa using hg
    · rename_i j c hgd
      rw [hgd]
      split at hg
      · rename_i t ht
        split at hg
        · rename_i hN
          have hlt : t < a.tmps.size := by rw [ha.size]; simpa [Nat.blt_eq] using hN
          have hy : a.tmps[t]? = some (e t) := by
            have := ha.get t
            rw [Array.getD_eq_getD_getElem?, Array.getElem?_eq_getElem hlt] at this
            rw [Array.getElem?_eq_getElem hlt, ← this]; rfl
          split at hg
          · rename_i hb; simp at hg; subst hg; cases c <;> simp [yielded, ht, hy, hb]
          · rename_i hb; simp at hg; subst hg; rename_i b'; cases b <;> simp [yielded, ht, hy, hb]
          · rename_i hb; simp at hg; subst hg; simp [yielded, ht, hy, hb]
          · simp at hg
        · simp at hg
      · simp at hg
theorem QOPS.skip1 {o : Oper} (hg : guardB ops N e o = some false) (h : QOPS P N ops C Q r (put e o.dst undef)) : QOPS P N ops C Q (o :: r) e := by
  intro a ha hd
  have hw : Region.wanted o (yielded ops a.tmps) = false := QOPS.val1.wanted_of ha hg
  rw [if_neg (by rw [hw]; exact Bool.false_ne_true)]
  exact h

theorem QOPS.nil (h : ∀ w, C w → Q .normal e w) : QOPS P N ops C Q [] e := h
theorem QOPS.call {f : FuncId} {args : Array Operand} {ts : Array TypeId} {v : Value} {ty : TypeId} {pos : String} {af : Array Edge} {gd : Option (Nat × Bool)} (dst : Option Tmp) (vs : List Value) (hok : (guardB ops N e ⟨dst, .call ⟨.value (.func f), args, ts⟩, ty, pos, af, gd⟩, callOk P f, args.toList.map (ev e)) = (some true, true, vs))
    (hc : ∀ w, C w → Calls P f vs.toArray w (fun x w' => x = .returned v ∧ C w')) (h : QOPS P N ops C Q r (put e dst v)) :
    QOPS P N ops C Q (⟨dst, .call ⟨.value (.func f), args, ts⟩, ty, pos, af, gd⟩ :: r) e := by
  simp only [Prod.mk.injEq] at hok
  obtain ⟨hg, hok, hvs⟩ := hok
  unfold callOk at hok
  split at hok
  · rename_i fn hf
    simp at hok
    intro a ha hd
    have hw := QOPS.val1.wanted_of ha hg
    rw [if_pos hw]
    refine ⟨v, fun w hC => ?_, h⟩
    unfold Oper.quietAt
    have hm : args.map (ev e) = vs.toArray := by rw [← hvs]; apply Array.ext'; simp
    have hce := callFunc_enter (P := P) (w := w) (args := vs.toArray) hf (by simpa using hok.1) (by simpa using hok.2)
    have : (execOp a.eval ⟨dst, .call ⟨.value (.func f), args, ts⟩, ty, pos, af, gd⟩).run P w = .ok (.enter f vs.toArray) w := by
      rw [ha.eval]; simp [execOp, resolve, ev, Deferred.ofValue, hm, invoke, hce]
    rw [this]
    exact ⟨rfl, hc w hC⟩
  · simp at hok
theorem QOPS.callV {f : FuncId} {x : Operand} {cap : Array Value} {args : Array Operand} {ts : Array TypeId} {v : Value} {ty : TypeId} {pos : String} {af : Array Edge} {gd : Option (Nat × Bool)} (dst : Option Tmp) (vs : List Value) (hx : ev e x = .func (.func f) #[] cap)
    (hok : (guardB ops N e ⟨dst, .call ⟨.value x, args, ts⟩, ty, pos, af, gd⟩, callOk P f, args.toList.map (ev e) ++ cap.toList) = (some true, true, vs))
    (hc : ∀ w, C w → Calls P f vs.toArray w (fun x w' => x = .returned v ∧ C w')) (h : QOPS P N ops C Q r (put e dst v)) :
    QOPS P N ops C Q (⟨dst, .call ⟨.value x, args, ts⟩, ty, pos, af, gd⟩ :: r) e := by
  simp only [Prod.mk.injEq] at hok
  obtain ⟨hg, hok, hvs⟩ := hok
  unfold callOk at hok
  split at hok
  · rename_i fn hf
    simp at hok
    intro a ha hd
    have hw := QOPS.val1.wanted_of ha hg
    rw [if_pos hw]
    refine ⟨v, fun w hC => ?_, h⟩
    unfold Oper.quietAt
    have hm : args.map (ev e) ++ cap = vs.toArray := by rw [← hvs]; apply Array.ext'; simp
    have hce := callFunc_enter (P := P) (w := w) (args := vs.toArray) hf (by simpa using hok.1) (by simpa using hok.2)
    have : (execOp a.eval ⟨dst, .call ⟨.value x, args, ts⟩, ty, pos, af, gd⟩).run P w = .ok (.enter f vs.toArray) w := by
      rw [ha.eval]; simp only [execOp, resolve, hx, Deferred.ofValue]; simp [invoke, hm, hce]
    rw [this]
    exact ⟨rfl, hc w hC⟩
  · simp at hok

/-- The first operations in a batch, in every world of the class. -/
theorem QOPS.batch {l : List Oper} (k : Nat) (H : Hints) (ls : List Value) (live : List Nat) (vs : List Value) (hne : ∃ w, C w)
    (h : ∀ w, C w → QB P w H ops N (l.take k) e ls live vs) (next : ∀ base, QOPS P N ops C Q (l.drop k) (K.mk base live vs)) : QOPS P N ops C Q l e := by
  have key : ∀ (r l1 : List Oper) (e e' : Env) (ls : List Value), (∀ w, C w → ∃ vc, All vc ∧ runB P w H ops N l1 e ls = some (e', vc)) → QOPS P N ops C Q r e' → QOPS P N ops C Q (l1 ++ r) e := by
    intro r l1
    induction l1 with
    | nil =>
      intro e e' ls hh hr
      obtain ⟨w, hw⟩ := hne
      obtain ⟨vc, _, h2⟩ := hh w hw
      simp [runB] at h2
      rw [← h2.1] at hr
      exact hr
    | cons o l1 ih =>
      intro e e' ls hh hr
      obtain ⟨w0, hw0⟩ := hne
      obtain ⟨vc0, hv0, h0⟩ := hh w0 hw0
      unfold runB at h0
      split at h0
      · rename_i hg
        split at h0
        · rename_i v vc1 ls' hp
          have hall : ∀ w, C w → ∃ vc1 vc2, pureOp P w H e ls { o with guard := none } = some (v, vc1, ls') ∧ All vc1 ∧ All vc2 ∧ runB P w H ops N l1 (put e o.dst v) ls' = some (e', vc2) := by
            intro w hw
            obtain ⟨vc, hv, h1⟩ := hh w hw
            unfold runB at h1
            rw [hg] at h1
            simp only at h1
            split at h1
            · rename_i v' vc1' ls'' hp'
              have hsame := pureOp_same hp hp'
              obtain ⟨rfl, rfl⟩ := hsame
              split at h1
              · rename_i e'' vc2 hrun
                simp at h1; obtain ⟨rfl, rfl⟩ := h1
                have := All.append hv
                exact ⟨vc1', vc2, hp', this.1, this.2, hrun⟩
              · simp at h1
            · simp at h1
          refine QOPS.val1 (v := v) hg (fun w hw => ?_) (ih (put e o.dst v) e' ls' (fun w hw => ?_) hr)
          · obtain ⟨vc1, vc2, a1, a2, _, _⟩ := hall w hw
            exact run_pureOp a1 a2
          · obtain ⟨vc1, vc2, _, _, a3, a4⟩ := hall w hw
            exact ⟨vc2, a3, a4⟩
        · simp at h0
      · rename_i hg
        refine QOPS.skip1 hg (ih (put e o.dst undef) e' ls (fun w hw => ?_) hr)
        obtain ⟨vc, hv, h1⟩ := hh w hw
        unfold runB at h1
        rw [hg] at h1
        exact ⟨vc, hv, h1⟩
      · simp at h0
  obtain ⟨w0, hw0⟩ := hne
  obtain ⟨vc0, hv0, h0⟩ := h w0 hw0
  unfold K.batch at h0
  split at h0
  · rename_i e' vc' hr0
    simp at h0
    obtain ⟨hvs, rfl⟩ := h0
    have := key (l.drop k) (l.take k) e e' ls (fun w hw => ?_) (by have := next e'; rwa [mk_self hvs] at this)
    · rwa [List.take_append_drop] at this
    · obtain ⟨vc, hv, h1⟩ := h w hw
      unfold K.batch at h1
      split at h1
      · rename_i e2 vc2 hr2
        simp at h1
        obtain ⟨_, rfl⟩ := h1
        exact ⟨vc2, hv, by rw [hr2, runB_same hr0 hr2]⟩
      · simp at h1
  · simp at h0
end


/-! ### (2) -/
/-- Whatever comes up: and behind each operation that waits not for all that is quiet, S. -/
def wpAnyK (P : Program) (ops : Array Oper) (Q : Exit → Act → World → Prop) (S : World → Prop) (K : Nat → Bool) : Nat → Array Bool → Act → World → Prop
  | 0, listed, a, w => Region.ready .any ops listed = [] ∧ Q .normal a w
  | fuel + 1, listed, a, w =>
    (Region.ready .any ops listed = [] → Q .normal a w) ∧
    ∀ i ∈ Region.ready .any ops listed, wpOp P ops Q i (fun a' w' => (K i = true ∨ S w') ∧ wpAnyK P ops Q S K fuel (listed.setIfInBounds i true) a' w') a w
section
variable {P : Program} {ops : Array Oper} {Q : Exit → Act → World → Prop} {S : World → Prop} {K : Nat → Bool}
theorem wpAny_of_K : ∀ (fuel : Nat) (listed : Array Bool) (a : Act) (w : World), wpAnyK P ops Q S K fuel listed a w → wpAny P .any ops Q fuel listed a w
  | 0, _, _, _, h => h
  | fuel + 1, _, _, _, h => ⟨h.1, fun i hi => wpOp_mono (fun a' w' h' => wpAny_of_K fuel _ a' w' h'.2) (h.2 i hi)⟩
theorem ready_other {listed : Array Bool} {i j : Nat} (hj : j ∈ Region.ready .any ops listed) (hr : i ∈ Region.ready .any ops listed) {oj : Oper} (hoj : ops[j]? = some oj) :
    ∀ e ∈ oj.after, Region.binds .any e = true → e.on ≠ i := fun e he hb heq => by
  obtain ⟨_, oj', hoj', hall⟩ := mem_ready.1 hj
  rw [hoj] at hoj'; cases hoj'
  have h1 := hall e he hb
  have h0 := (mem_ready.1 hr).1
  rw [heq] at h1
  rcases Nat.lt_or_ge i listed.size with h' | h'
  · simp [h'] at h0 h1; rw [h0] at h1; cases h1
  · simp [Array.getElem?_eq_none h'] at h1
theorem wpAnyK_first {i : Nat} {oi : Oper} {v : Value} (hi : ops[i]? = some oi) (hsel : ∀ (j : Nat) (o : Oper) cs b, ops[j]? = some o → o.op ≠ .select cs b)
    (hQ : ∀ c a w, ¬ Q (.panic c) a w) (hK : ∀ j oj, ops[j]? = some oj → K j = true → ∃ e ∈ oj.after, Region.binds .any e = true ∧ e.on = i) :
    ∀ (fuel : Nat) (listed : Array Bool) (a : Act) (w : World),
      (∀ j oj, ops[j]? = some oj → j ≠ i → listed.getD j true = false → (∀ e ∈ oj.after, Region.binds .any e = true → e.on ≠ i) → oi.apart ops oj = true) →
      i ∈ Region.ready .any ops listed → YieldsIf P ops S oi v a → S w →
      wpAnyK P ops Q S K fuel (listed.setIfInBounds i true) (a.put oi.dst v) w → wpAnyK P ops Q S K (fuel + 1) listed a w := by
  intro fuel
  induction fuel with
  | zero =>
    intro listed a w _ hr hy hS H
    refine ⟨fun h => (by rw [h] at hr; cases hr), fun j hj => ?_⟩
    by_cases hji : j = i
    · subst hji; exact hy.wpOp hi hS ⟨.inr hS, H⟩
    · have := ready_mono hj hji
      rw [H.1] at this
      cases this
  | succ fuel ih =>
    intro listed a w hfree hr hy hS H
    refine ⟨fun h => (by rw [h] at hr; cases hr), fun j hj => ?_⟩
    by_cases hji : j = i
    · subst hji; exact hy.wpOp hi hS ⟨.inr hS, H⟩
    · have h1 := H.2 j (ready_mono hj hji)
      obtain ⟨hjun, oj, hoj, hall⟩ := mem_ready.1 hj
      have hnot := ready_other hj hr hoj
      have hKj : K j = false := by
        cases hk : K j with
        | false => rfl
        | true =>
          obtain ⟨e, he, hb, hon⟩ := hK j oj hoj hk
          exact absurd hon (hnot e he hb)
      have h2 := wpOp_putIf (S := S) hoj (hfree j oj hoj hji hjun hnot) (fun cs b => hsel i oi cs b hi) (fun cs b => hsel j oj cs b hoj) (fun c a w hq => (hQ c _ w hq).elim) hy h1
      have hfree' : ∀ k ok, ops[k]? = some ok → k ≠ i → (listed.setIfInBounds j true).getD k true = false →
          (∀ e ∈ ok.after, Region.binds .any e = true → e.on ≠ i) → oi.apart ops ok = true := fun k ok hk hki hun hno => by
        refine hfree k ok hk hki ?_ hno
        by_cases hjk : j = k
        · subst hjk; exact hjun
        · rw [getD_set_ne true hjk] at hun; exact hun
      refine wpOp_mono (fun a' w' h3 => ?_) h2
      have hS' : S w' := by rcases h3.2.1 with hk | hs; · rw [hKj] at hk; cases hk
                            · exact hs
      refine ⟨.inr hS', ih (listed.setIfInBounds j true) a' w' hfree' (ready_mono hr (Ne.symm hji)) h3.1 hS' ?_⟩
      rw [Array.setIfInBounds_comm _ _ hji]
      exact h3.2.2
end

/-- An order: numbers, and whether they are taken first. -/
def waitsB (ops : Array Oper) (j i : Nat) : Bool := match ops[j]? with
  | some o => o.after.any fun e => Region.binds .any e && e.on == i
  | none => true
def orderOk (ops : Array Oper) (ks : List Nat) : List (Nat × Bool) → Array Bool → Bool
  | [], listed => Region.ready .any ops listed == []
  | (i, true) :: r, listed => Region.free .any ops listed i && (Region.ready .any ops listed).contains i && ks.all (fun j => waitsB ops j i) && orderOk ops ks r (listed.setIfInBounds i true)
  | (i, false) :: r, listed => (Region.ready .any ops listed == [i]) && orderOk ops ks r (listed.setIfInBounds i true)

def HOPS (P : Program) (N : Nat) (ops : Array Oper) (Q : Post) (S : World → Prop) (ks : List Nat) : List (Nat × Bool) → Env → World → Prop
  | [], e, w => Q .normal e w
  | (i, true) :: r, e, w => ∀ o, ops[i]? = some o → S w ∧ ∃ b, guardB ops N e o = some b ∧
    if b then ∃ v, (∀ w', S w' → (execOp (ev e) { o with guard := none }).run P w' = .ok (.value v) w') ∧ HOPS P N ops Q S ks r (put e o.dst v) w else HOPS P N ops Q S ks r (put e o.dst undef) w
  | (i, false) :: r, e, w => ∀ o, ops[i]? = some o → opStep P N ops Q o (fun e' w' => (ks.contains i = true ∨ S w') ∧ HOPS P N ops Q S ks r e' w') e w

theorem HOPS.sound {P : Program} {N : Nat} {ops : Array Oper} {Q : Post} {S : World → Prop} {ks : List Nat} (hN : (ops.toList.all fun o => dstOk N o.dst) = true) (hs : Region.noSelect ops = true) (hQ : NoPanic Q) :
    ∀ (l : List (Nat × Bool)) (listed : Array Bool) (e : Env) (w : World) (a : Act), orderOk ops ks l listed = true → Is N a e → HOPS P N ops Q S ks l e w → wpAnyK P ops (lift N Q) S ks.contains l.length listed a w
  | [], listed, e, w, a, hok, ha, h => by
    simp only [orderOk, beq_iff_eq] at hok
    exact ⟨hok, e, ha, h⟩
  | (i, true) :: r, listed, e, w, a, hok, ha, h => by
    simp only [orderOk, Bool.and_eq_true] at hok
    obtain ⟨⟨⟨hf, hr⟩, hks⟩, hok'⟩ := hok
    have hr' : i ∈ Region.ready .any ops listed := by simpa using hr
    obtain ⟨_, oi, hoi, _⟩ := mem_ready.1 hr'
    obtain ⟨hS, b, hg, hb⟩ := h oi hoi
    have hw := QOPS.val1.wanted_of ha hg
    have hd : dstOk N oi.dst = true := by
      rw [List.all_eq_true] at hN
      exact hN oi (by have := Array.mem_of_getElem? hoi; simpa using this)
    have hx : execOp a.eval oi = execOp (ev e) { oi with guard := none } := by rw [ha.eval]; rfl
    have hKk : ∀ j oj, ops[j]? = some oj → ks.contains j = true → ∃ e ∈ oj.after, Region.binds .any e = true ∧ e.on = i := by
      intro j oj hoj hk
      have := List.all_eq_true.1 hks j (by simpa using hk)
      unfold waitsB at this
      rw [hoj] at this
      simp only [Array.any_eq_true, Bool.and_eq_true, beq_iff_eq] at this
      obtain ⟨k, hk, h1, h2⟩ := this
      exact ⟨_, Array.getElem_mem hk, h1, h2⟩
    have fin : ∀ v, YieldsIf P ops S oi v a → HOPS P N ops Q S ks r (put e oi.dst v) w → wpAnyK P ops (lift N Q) S ks.contains (r.length + 1) listed a w := fun v hy hn =>
      wpAnyK_first hoi (Region.noSelect_spec hs) (fun c a w ⟨e', _, hq⟩ => hQ c e' w hq) hKk r.length listed a w (Region.free_spec hoi hf) hr' hy hS
        (HOPS.sound hN hs hQ r _ _ w _ hok' (ha.put _ _ hd) hn)
    cases b with
    | true =>
      rw [if_pos rfl] at hb
      obtain ⟨v, hv, hn⟩ := hb
      exact fin v (.inl ⟨hw, fun w' hw' => by rw [hx]; exact hv w' hw'⟩) hn
    | false =>
      rw [if_neg (by simp)] at hb
      exact fin undef (.inr ⟨hw, rfl⟩) hb
  | (i, false) :: r, listed, e, w, a, hok, ha, h => by
    simp only [orderOk, Bool.and_eq_true, beq_iff_eq] at hok
    obtain ⟨hr, hok'⟩ := hok
    refine ⟨fun h0 => (by rw [h0] at hr; cases hr), fun j hj => ?_⟩
    rw [hr] at hj
    have hji : j = i := by simpa using hj
    subst hji
    have hr' : j ∈ Region.ready .any ops listed := by rw [hr]; simp
    obtain ⟨_, oi, hoi, _⟩ := mem_ready.1 hr'
    have hd : dstOk N oi.dst = true := by
      rw [List.all_eq_true] at hN
      exact hN oi (by have := Array.mem_of_getElem? hoi; simpa using this)
    have h' := h oi hoi a ha hd
    unfold wpOp
    simp only [hoi]
    split
    · rename_i hw
      rw [if_pos hw] at h'
      exact .inl (Oper.wp_mono (fun a' w' ⟨e', he', hn⟩ => ⟨hn.1, HOPS.sound hN hs hQ r _ e' w' a' hok' he' hn.2⟩) h')
    · rename_i hw
      rw [if_neg (by simpa using hw)] at h'
      obtain ⟨e', he', hn⟩ := h'
      exact ⟨hn.1, HOPS.sound hN hs hQ r _ e' w _ hok' he' hn.2⟩

theorem WP.held {P : Program} {N : Nat} {Q : Post} {e : Env} {w : World} {id : Nat} {ops : Array Oper} (S : World → Prop) (ks : List Nat) (ord : List (Nat × Bool)) (hQ : NoPanic Q)
    (hB : (P.follows .mixedOrders, Region.noSelect ops, ops.toList.all fun o => dstOk N o.dst, orderOk ops ks ord (Array.replicate ops.size false), Nat.beq ord.length ops.size) = (true, true, true, true, true))
    (h : HOPS P N ops Q S ks ord e w.drew) : WP P N (.region id ops true) Q e w := by
  simp only [Prod.mk.injEq] at hB
  obtain ⟨h1, h2, h3, h4, h5⟩ := hB
  intro a ha
  have h5' : ord.length = ops.size := Nat.eq_of_beq_eq_true h5
  refine wp_region_any h1 ?_
  rw [← h5']
  have := wpAny_of_K _ _ _ _ (HOPS.sound h3 h2 hQ ord _ e w.drew a h4 ha h)
  rw [← h5'] at this
  exact this

section
variable {P : Program} {N : Nat} {ops : Array Oper} {Q : Post} {S : World → Prop} {ks : List Nat} {e : Env} {w : World} {r : List (Nat × Bool)}
theorem HOPS.nil (h : Q .normal e w) : HOPS P N ops Q S ks [] e w := h
/-- One that comes up alone. -/
theorem HOPS.eff {i : Nat} (o : Oper) (ho : ops[i]? = some o) (h : opStep P N ops Q o (fun e' w' => (ks.contains i = true ∨ S w') ∧ HOPS P N ops Q S ks r e' w') e w) : HOPS P N ops Q S ks ((i, false) :: r) e w := by
  intro o' ho'
  rw [ho] at ho'; cases ho'
  exact h
/-- Those that are taken first, in a batch. -/
theorem HOPS.batch {l : List (Nat × Bool)} (k : Nat) (H : Hints) (ls : List Value) (live : List Nat) (vs : List Value) (lo : List Oper) (hlo : ((l.take k).map fun p => (ops[p.1]?, p.2)) = lo.map fun o => (some o, true)) (hS : S w)
    (h : ∀ w, S w → QB P w H ops N lo e ls live vs) (next : ∀ base, HOPS P N ops Q S ks (l.drop k) (K.mk base live vs) w) : HOPS P N ops Q S ks l e w := by
  have key : ∀ (r l1 : List (Nat × Bool)) (lo : List Oper) (e e' : Env) (ls : List Value), (l1.map fun p => (ops[p.1]?, p.2)) = lo.map (fun o => (some o, true)) → (∀ w, S w → ∃ vc, All vc ∧ runB P w H ops N lo e ls = some (e', vc)) →
      HOPS P N ops Q S ks r e' w → HOPS P N ops Q S ks (l1 ++ r) e w := by
    intro r l1
    induction l1 with
    | nil =>
      intro lo e e' ls hl hh hr
      cases lo with
      | nil =>
        obtain ⟨vc, _, h2⟩ := hh w hS
        simp [runB] at h2
        rw [← h2.1] at hr
        exact hr
      | cons o lo => simp at hl
    | cons p l1 ih =>
      intro lo e e' ls hl hh hr
      cases lo with
      | nil => simp at hl
      | cons o lo =>
        obtain ⟨i, b⟩ := p
        simp only [List.map_cons, List.cons.injEq, Prod.mk.injEq] at hl
        obtain ⟨⟨hoi, rfl⟩, hl'⟩ := hl
        intro o' ho'
        rw [hoi] at ho'; cases ho'
        obtain ⟨vc0, hv0, h0⟩ := hh w hS
        unfold runB at h0
        split at h0
        · rename_i hg
          split at h0
          · rename_i v vc1 ls' hp
            have hall : ∀ w, S w → ∃ vc1 vc2, pureOp P w H e ls { o with guard := none } = some (v, vc1, ls') ∧ All vc1 ∧ All vc2 ∧ runB P w H ops N lo (put e o.dst v) ls' = some (e', vc2) := by
              intro w hw
              obtain ⟨vc, hv, h1⟩ := hh w hw
              unfold runB at h1
              rw [hg] at h1
              simp only at h1
              split at h1
              · rename_i v' vc1' ls'' hp'
                obtain ⟨rfl, rfl⟩ := pureOp_same hp hp'
                split at h1
                · rename_i e'' vc2 hrun
                  simp at h1; obtain ⟨rfl, rfl⟩ := h1
                  have := All.append hv
                  exact ⟨vc1', vc2, hp', this.1, this.2, hrun⟩
                · simp at h1
              · simp at h1
            refine ⟨hS, true, hg, ?_⟩
            rw [if_pos rfl]
            refine ⟨v, fun w' hw' => ?_, ih lo (put e o.dst v) e' ls' hl' (fun w' hw' => ?_) hr⟩
            · obtain ⟨vc1, vc2, a1, a2, _, _⟩ := hall w' hw'
              exact run_pureOp a1 a2
            · obtain ⟨vc1, vc2, _, _, a3, a4⟩ := hall w' hw'
              exact ⟨vc2, a3, a4⟩
          · simp at h0
        · rename_i hg
          refine ⟨hS, false, hg, ?_⟩
          rw [if_neg (by simp)]
          refine ih lo (put e o.dst undef) e' ls hl' (fun w' hw' => ?_) hr
          obtain ⟨vc, hv, h1⟩ := hh w' hw'
          unfold runB at h1
          rw [hg] at h1
          exact ⟨vc, hv, h1⟩
        · simp at h0
  obtain ⟨vc0, hv0, h0⟩ := h w hS
  unfold K.batch at h0
  split at h0
  · rename_i e' vc' hr0
    simp at h0
    obtain ⟨hvs, rfl⟩ := h0
    have := key (l.drop k) (l.take k) lo e e' ls hlo (fun w' hw' => ?_) (by have := next e'; rwa [mk_self hvs] at this)
    · rwa [List.take_append_drop] at this
    · obtain ⟨vc, hv, h1⟩ := h w' hw'
      unfold K.batch at h1
      split at h1
      · rename_i e2 vc2 hr2
        simp at h1
        obtain ⟨_, rfl⟩ := h1
        exact ⟨vc2, hv, by rw [hr2, runB_same hr0 hr2]⟩
      · simp at h1
  · simp at h0

def pickOps (ops : Array Oper) (l : List (Nat × Bool)) : List Oper := l.filterMap fun p => ops[p.1]?
def pickOk (ops : Array Oper) (l : List (Nat × Bool)) : Bool := l.all fun p => p.2 && (ops[p.1]?).isSome
theorem pickOps_map {ops : Array Oper} : ∀ {l : List (Nat × Bool)}, pickOk ops l = true → (l.map fun p => (ops[p.1]?, p.2)) = (pickOps ops l).map fun o => (some o, true)
  | [], _ => rfl
  | (i, b) :: l, h => by
    simp only [pickOk, List.all_cons, Bool.and_eq_true] at h
    obtain ⟨⟨hb, hs⟩, hl⟩ := h
    obtain ⟨o, ho⟩ := Option.isSome_iff_exists.1 hs
    have ih := pickOps_map (ops := ops) (l := l) hl
    simp only [List.map_cons, pickOps, List.filterMap_cons, ho]
    rw [ih]
    have hb' : b = true := hb
    rw [hb']; rfl
theorem HOPS.take {l : List (Nat × Bool)} (k : Nat) (H : Hints) (ls : List Value) (live : List Nat) (vs : List Value) (hlo : pickOk ops (l.take k) = true) (hS : S w)
    (h : ∀ w, S w → QB P w H ops N (pickOps ops (l.take k)) e ls live vs) (next : ∀ base, HOPS P N ops Q S ks (l.drop k) (K.mk base live vs) w) : HOPS P N ops Q S ks l e w :=
  HOPS.batch k H ls live vs _ (pickOps_map hlo) hS h next
end

theorem batch_one {P : Program} {N : Nat} {ops : Array Oper} {Q : Post} {e : Env} {w : World} {o : Oper} (H : Hints) (ls : List Value) (live : List Nat) (vs : List Value) {vc : List Prop} (pf : Prf vc) {next : Env → World → Prop}
    (h : batch P w H ops N [o] e ls live = some (vs, vc)) (hn : ∀ base, next (K.mk base live vs) w) : opStep P N ops Q o next e w := by
  unfold batch at h
  split at h
  · rename_i e' vc' hr
    simp at h
    obtain ⟨hvs, rfl⟩ := h
    have hn' := hn e'
    rw [mk_self hvs] at hn'
    have hv := pf.all
    clear pf
    unfold runB at hr
    split at hr
    · rename_i hg
      refine guard_step hg ?_
      rw [if_pos rfl]
      split at hr
      · rename_i v vc1 ls' hp
        split at hr
        · rename_i e'' vc2 hrun
          simp at hr; obtain ⟨rfl, rfl⟩ := hr
          simp [runB] at hrun
          obtain ⟨rfl, rfl⟩ := hrun
          exact opStep.val rfl (run_pureOp hp (All.append hv).1) hn'
        · simp at hr
      · simp at hr
    · rename_i hg
      refine guard_step hg ?_
      rw [if_neg (by simp)]
      simp [runB] at hr
      obtain ⟨rfl, rfl⟩ := hr
      exact hn'
    · simp at hr
  · simp at h
theorem HOPS.one {P : Program} {N : Nat} {ops : Array Oper} {Q : Post} {S : World → Prop} {ks : List Nat} {e : Env} {w : World} {r : List (Nat × Bool)} {i : Nat} (o : Oper) (ho : ops[i]? = some o) (H : Hints) (ls : List Value) (live : List Nat) (vs : List Value) {vc : List Prop} (pf : Prf vc)
    (h : K.batch P w H ops N [o] e ls live = some (vs, vc)) (hS : S w) (hn : ∀ base, HOPS P N ops Q S ks r (K.mk base live vs) w) : HOPS P N ops Q S ks ((i, false) :: r) e w :=
  HOPS.eff o ho (batch_one H ls live vs pf h fun base => ⟨.inr hS, hn base⟩)
theorem QOPS.re {P : Program} {N : Nat} {ops : Array Oper} {C : World → Prop} {Q : Post} {l : List Oper} {base : Env} {ks : List Nat} {vs : List Value} (vs' : List Value) (h : vs = vs') (k : QOPS P N ops C Q l (K.mk base ks vs')) : QOPS P N ops C Q l (K.mk base ks vs) := by rw [h]; exact k
end Go.Proofs.YtbpedjefoajegaaDoor.K
namespace Go.Proofs.YtbpedjefoajegaaDoor.K
open Go Go.Proofs Go.RowKit
abbrev pP (g : Nat) : Go.Value := .pointer (some ⟨g, 0, none⟩)
abbrev iI (x : Int) : Go.Value := .int .i64 x
abbrev nS : Go.Value := .slice none 0 0
abbrev bT : Go.Value := .bool true
abbrev bF : Go.Value := .bool false
section
variable {w : World} {T b : Nat} {c : List Value}
theorem l1 (t o : Nat) (v : Value) (h : (Res.row b c T).holds w) (hc : (isAggB Tryd.prog t, c[o]?) = (some false, some v) := by kernel_rfl) : Ld Tryd.prog w t ⟨b, o, none⟩ v := Ld.row1 h hc
theorem lN (t o : Nat) (cs : List Value) (h : (Res.row b c T).holds w) (hc : (isAggB Tryd.prog t, (Tryd.prog.info? t).map (·.size), (c.drop o).take cs.length) = (some true, some cs.length, cs) := by kernel_rfl) : Ld Tryd.prog w t ⟨b, o, none⟩ (.agg cs.toArray) := Ld.rowN h hc
end
section
variable {P : Program} {N : Nat} {Q : Post} {e : Env} {w : World} {id : Nat} {ops : Array Oper}
theorem wR (h : OPS P N ops Q ops.toList e w) (hN : (ops.toList.all fun o => dstOk N o.dst) = true := by kernel_rfl) : WP P N (.region id ops false) Q e w := WP.region _ rfl hN h
theorem wQ (H : Hints) (ls : List Value) (live : List Nat) (vs : List Value) {vc : List Prop} (pf : Prf vc) (next : ∀ base, Q .normal (mk base live vs) w)
    (h : (ops.all (fun o => dstOk N o.dst) && true, K.batch P w H ops N ops.toList e ls live) = (true, some (vs, vc)) := by kernel_rfl) : WP P N (.region id ops false) Q e w := WP.pure H ls live vs pf h next
theorem wP (live : List Nat) (vs : List Value) (next : ∀ base, Q .normal (mk base live vs) w)
    (h : (ops.all (fun o => dstOk N o.dst) && true, K.batch P w {} ops N ops.toList e [] live) = (true, some (vs, [])) := by kernel_rfl) : WP P N (.region id ops false) Q e w := WP.pure {} [] live vs .nil h next
theorem oQ {l : List Oper} (k : Nat) (H : Hints) (ls : List Value) (live : List Nat) (vs : List Value) {vc : List Prop} (pf : Prf vc) (next : ∀ base, OPS P N ops Q (l.drop k) (mk base live vs) w)
    (h : K.batch P w H ops N (l.take k) e ls live = some (vs, vc) := by kernel_rfl) : OPS P N ops Q l e w := OPS.batch k H ls live vs pf h next
theorem oP {l : List Oper} (k : Nat) (live : List Nat) (vs : List Value) (next : ∀ base, OPS P N ops Q (l.drop k) (mk base live vs) w)
    (h : K.batch P w {} ops N (l.take k) e [] live = some (vs, []) := by kernel_rfl) : OPS P N ops Q l e w := OPS.batch k {} [] live vs .nil h next
variable {S : World → Prop} {ks : List Nat}
theorem hP {l : List (Nat × Bool)} (k : Nat) (live : List Nat) (vs : List Value) (hS : S w) (next : ∀ base, HOPS P N ops Q S ks (l.drop k) (K.mk base live vs) w) (hlo : pickOk ops (l.take k) = true := by kernel_rfl)
    (h : ∀ w, S w → batch P w {} ops N (pickOps ops (l.take k)) e [] live = some (vs, []) := by intro _ _; kernel_rfl) : HOPS P N ops Q S ks l e w := HOPS.take k {} [] live vs hlo hS (fun w hw => QB.mk .nil (h w hw)) next
theorem hQ {l : List (Nat × Bool)} (k : Nat) (H : Hints) (ls : List Value) (live : List Nat) (vs : List Value) {vc : World → List Prop} (hS : S w) (pf : ∀ w, S w → Prf (vc w)) (next : ∀ base, HOPS P N ops Q S ks (l.drop k) (K.mk base live vs) w) (hlo : pickOk ops (l.take k) = true := by kernel_rfl)
    (h : ∀ w, S w → batch P w H ops N (pickOps ops (l.take k)) e ls live = some (vs, vc w) := by intro _ _; kernel_rfl) : HOPS P N ops Q S ks l e w := HOPS.take k H ls live vs hlo hS (fun w hw => QB.mk (pf w hw) (h w hw)) next
end
end Go.Proofs.YtbpedjefoajegaaDoor.K
namespace Go.Proofs.YtbpedjefoajegaaDoor.K
open Go Go.RowKit

structure SlH where
  a : Option Addr
  n : Nat
  c : Nat
def SlH.v (s : SlH) : Value := .slice s.a s.n s.c

/-- What is known of the sizes in a datum. -/
structure WtOk {H : Type} (P : Program) (Wt : TypeId → DataW H → Prop) (B : TypeId → Nat) (Bs : Nat) : Prop where
  str : ∀ {t bytes}, P.underlying t = some .string → Wt t (.lit (.string bytes)) → bytes.length ≤ Bs
  slice : ∀ {t e es sp}, P.underlying t = some (.slice e) → 0 < P.bytesOf e → Wt t (.slice es sp) → es.length + sp.length ≤ B e ∧ (∀ d ∈ es, Wt e d)
  agg : ∀ {t fs ds}, P.underlying t = some (.struct fs) → Wt t (.agg ds) → ∀ (i : Nat) (f : Field) (d : DataW H), fs[i]? = some f → ds[i]? = some d → Wt f.type d
  arr : ∀ {t n e ds}, P.underlying t = some (.array n e) → Wt t (.agg ds) → ∀ d ∈ ds, Wt e d

section
variable {H : Type} {enc : TypeId × Value → H} {P : Program} {w : World} {Wt : TypeId → DataW H → Prop} {B : TypeId → Nat} {Bs : Nat} {fuel : Nat} {t : TypeId} {cs : List Value} {y : DataW H × List MemPlace}

/-- The reading of one place. -/
abbrev trodA (enc : TypeId × Value → H) (P : Program) (w : World) (fuel : Nat) (t : TypeId) (cs : List Value) : Option (DataW H × List MemPlace) := DataW.trod enc P w 0 (fun _ => true) true fuel t cs

theorem rng_wf {k : IntKind} {n : Int} (h : (Lit.int k n).wf = true) : Rng k n := by
  simp only [Lit.wf, Bool.and_eq_true, decide_eq_true_eq] at h
  exact h

theorem trod_int {k : IntKind} (hu : P.underlying t = some (.int k)) (h : trodA enc P w fuel t cs = some y) : ∃ n, cs = [.int k n] ∧ Rng k n := by
  cases fuel with
  | zero => simp [trodA, DataW.trod] at h
  | succ fuel =>
    simp only [trodA, DataW.trod, hu] at h
    split at h <;> first
      | (simp at h; done)
      | skip
    all_goals (rename_i hh; simp at hh)
    obtain ⟨rfl, _⟩ := hh
    split at h
    · rename_i hw
      obtain ⟨rfl, hw⟩ := hw
      exact ⟨_, rfl, rng_wf hw⟩
    · simp at h
theorem trod_bool (hu : P.underlying t = some .bool) (h : trodA enc P w fuel t cs = some y) : ∃ b, cs = [.bool b] := by
  cases fuel with
  | zero => simp [trodA, DataW.trod] at h
  | succ fuel =>
    simp only [trodA, DataW.trod, hu] at h
    split at h <;> first
      | (simp at h; done)
      | skip
    all_goals (first | exact ⟨_, rfl⟩ | (rename_i hh; simp at hh))
theorem trod_str (hW : WtOk P Wt B Bs) (hu : P.underlying t = some .string) (h : trodA enc P w fuel t cs = some y) (hy : Wt t y.1) : ∃ s, cs = [.string s] ∧ s.size ≤ Bs := by
  cases fuel with
  | zero => simp [trodA, DataW.trod] at h
  | succ fuel =>
    simp only [trodA, DataW.trod, hu] at h
    split at h <;> first
      | (simp at h; done)
      | skip
    all_goals (first | (rename_i hh; simp at hh; done) | skip)
    split at h
    · rename_i s hs
      simp at h; subst h
      have := hW.str hu hy
      exact ⟨_, rfl, by simpa using this⟩
    · simp at h

theorem mapM_get {α β : Type} {g : α → Option β} : ∀ {l : List α} {ys : List β}, l.mapM g = some ys → ys.length = l.length ∧ ∀ (i : Nat) (x : α), l[i]? = some x → ∃ y, ys[i]? = some y ∧ g x = some y
  | [], ys, h => by simp at h; subst h; simp
  | a :: l, ys, h => by
    simp only [List.mapM_cons, Option.bind_eq_bind, Option.pure_def] at h
    cases ha : g a with
    | none => simp [ha] at h
    | some b =>
      cases hl : l.mapM g with
      | none => simp [ha, hl] at h
      | some bs =>
        simp [ha, hl] at h
        subst h
        obtain ⟨h1, h2⟩ := mapM_get hl
        refine ⟨by simp [h1], fun i x hx => ?_⟩
        cases i with
        | zero => simp at hx; subst hx; exact ⟨b, by simp, ha⟩
        | succ i => simp at hx; obtain ⟨y, h3, h4⟩ := h2 i x hx; exact ⟨y, by simpa using h3, h4⟩

theorem trod_struct {fs : Array Field} (hW : WtOk P Wt B Bs) (hu : P.underlying t = some (.struct fs)) (h : trodA enc P w fuel t cs = some y) (hy : Wt t y.1) :
    cs.length = P.cellsOf t ∧ ∀ (i : Nat) (f : Field), fs[i]? = some f → ∃ fuel' z, trodA enc P w fuel' f.type ((cs.drop f.offset).take (P.cellsOf f.type)) = some z ∧ Wt f.type z.1 := by
  cases fuel with
  | zero => simp [trodA, DataW.trod] at h
  | succ fuel =>
    simp only [trodA, DataW.trod, hu] at h
    split at h
    · rename_i hl
      cases hm : fs.toList.mapM (fun f => DataW.trod enc P w 0 (fun _ => true) true fuel f.type ((cs.drop f.offset).take (P.cellsOf f.type))) with
      | none => simp [hm] at h
      | some xs =>
        simp [hm] at h
        subst h
        obtain ⟨h1, h2⟩ := mapM_get hm
        refine ⟨hl, fun i f hf => ?_⟩
        have hf' : fs.toList[i]? = some f := by simpa using hf
        obtain ⟨z, hz, hz2⟩ := h2 i f hf'
        exact ⟨fuel, z, hz2, hW.agg hu hy i f z.1 hf (by simp [hz])⟩
    · simp at h

theorem cells_get {w : World} {a : Addr} {n : Nat} {cs : List Value} (h : w.cells? 0 a n = some cs) : cs.length = n ∧ ∀ (j : Nat) (u : Value), cs[j]? = some u → w.cell? (a.add j) = some u := by
  unfold World.cells? at h
  rw [if_pos (Nat.zero_le _)] at h
  obtain ⟨h1, h2⟩ := mapM_get h
  refine ⟨by simpa using h1, fun j u hu => ?_⟩
  have hj : j < n := by
    have := (List.getElem?_eq_some_iff.1 hu).1
    simp at h1; omega
  obtain ⟨y, hy, hz⟩ := h2 j j (by simp [hj])
  rw [hu] at hy
  cases hy
  exact hz

theorem flat_get' {α : Type} {f : α → List Value} {sz : Nat} (hsz : 0 < sz) : ∀ {l : List α} (_ : ∀ x ∈ l, (f x).length = sz) {k : Nat} {u : Value}, (l.flatMap f)[k]? = some u → ∃ x, l[k / sz]? = some x ∧ (f x)[k % sz]? = some u
  | [], _, k, u, h => by simp at h
  | y :: l, hl, k, u, h => by
    have hy : (f y).length = sz := hl y (by simp)
    rw [List.flatMap_cons] at h
    by_cases hk : k < sz
    · rw [List.getElem?_append_left (by omega)] at h
      rw [Nat.div_eq_of_lt hk, Nat.mod_eq_of_lt hk]
      exact ⟨y, by simp, h⟩
    · rw [List.getElem?_append_right (by omega), hy] at h
      obtain ⟨x, h1, h2⟩ := flat_get' hsz (fun z hz => hl z (by simp [hz])) h
      refine ⟨x, ?_, ?_⟩
      · have hd : k / sz = (k - sz) / sz + 1 := by
          rw [← Nat.sub_add_cancel (Nat.le_of_not_lt hk), Nat.add_div_right _ hsz]; simp
        rw [hd]; simpa using h1
      · have hm : k % sz = (k - sz) % sz := by
          conv => lhs; rw [← Nat.sub_add_cancel (Nat.le_of_not_lt hk), Nat.add_mod_right]
        rw [hm]; exact h2

theorem trod_slice {e : TypeId} {α : Type} (f : α → List Value) (ok : α → Prop) {sz : Nat} (hW : WtOk P Wt B Bs) (hu : P.underlying t = some (.slice e)) (hsz : P.cellsOf e = sz) (hby : 0 < P.bytesOf e) (h0 : 0 < sz) (hl : ∀ x, (f x).length = sz)
    (hel : ∀ fuel cs y, trodA enc P w fuel e cs = some y → Wt e y.1 → ∃ x, cs = f x ∧ ok x) (h : trodA enc P w fuel t cs = some y) (hy : Wt t y.1) :
    ∃ (s : SlH) (l : List α), cs = [s.v] ∧ s.n = l.length ∧ s.n ≤ s.c ∧ s.c ≤ B e ∧ SlR w s.a s.n (l.flatMap f) ∧ (∀ x ∈ l, ok x) ∧ (s.a = none → s.c = 0) := by
  cases fuel with
  | zero => simp [trodA, DataW.trod] at h
  | succ fuel =>
    simp only [trodA, DataW.trod, hu] at h
    split at h <;> first
      | (simp at h; done)
      | skip
    all_goals (try (rename_i hh; simp at hh; done))
    · exact ⟨⟨none, 0, 0⟩, [], rfl, rfl, Nat.le_refl _, Nat.zero_le _, SlR.nil _ _ rfl, by simp, fun _ => rfl⟩
    · rename_i e' a len cap he
      have hee : e' = e := by simp at he; exact he.symm
      subst hee
      rw [hsz] at h
      split at h
      · rename_i hb
        cases hm : (List.range len).mapM (fun i => (w.cells? 0 (a.add (i * sz)) sz).bind (DataW.trod enc P w 0 (fun _ => true) true fuel e')) with
        | none => simp [hm] at h
        | some es =>
          cases hr : (List.range (cap - len)).mapM (fun j => (w.cells? 0 (a.add ((len + j) * sz)) sz).bind (DataW.trod enc P w 0 (fun _ => true) true fuel e')) with
          | none => simp [hm, hr] at h
          | some rs =>
            simp [hm, hr] at h
            subst h
            obtain ⟨hl1, hg⟩ := mapM_get hm
            obtain ⟨hl2, _⟩ := mapM_get hr
            obtain ⟨hB, hWe⟩ := hW.slice hu hby hy
            simp at hl1 hl2 hB
            have hex : ∀ i, i < len → ∃ x, ok x ∧ w.cells? 0 (a.add (i * sz)) sz = some (f x) := by
              intro i hi
              obtain ⟨z, hz, hz2⟩ := hg i i (by simp [hi])
              cases hc : w.cells? 0 (a.add (i * sz)) sz with
              | none => simp [hc] at hz2
              | some cs =>
                simp [hc] at hz2
                obtain ⟨x, hx, hok⟩ := hel fuel cs z hz2 (hWe z.1 (List.mem_map.2 ⟨z, List.mem_of_getElem? hz, rfl⟩))
                exact ⟨x, hok, by rw [hx]⟩
            have hlist : ∀ k, k ≤ len → ∃ l : List α, l.length = k ∧ (∀ x ∈ l, ok x) ∧ ∀ (i : Nat) (x : α), l[i]? = some x → w.cells? 0 (a.add (i * sz)) sz = some (f x) := by
              intro k
              induction k with
              | zero => intro _; exact ⟨[], rfl, by simp, by simp⟩
              | succ k ih =>
                intro hk
                obtain ⟨l, h1, h2, h3⟩ := ih (by omega)
                obtain ⟨x, hx1, hx2⟩ := hex k (by omega)
                refine ⟨l ++ [x], by simp [h1], ?_, ?_⟩
                · intro y hy; simp at hy; rcases hy with hy | rfl
                  · exact h2 y hy
                  · exact hx1
                · intro i y hy
                  rw [List.getElem?_append] at hy
                  split at hy
                  · exact h3 i y hy
                  · rename_i hi
                    have : i = k := by
                      have := (List.getElem?_eq_some_iff.1 hy).1
                      simp at this; omega
                    subst this
                    simp [h1] at hy; subst hy; exact hx2
            obtain ⟨l, h1, h2, h3⟩ := hlist len (Nat.le_refl _)
            refine ⟨⟨some a, len, cap⟩, l, rfl, h1.symm, hb.2.1, ?_, ⟨?_, fun _ => rfl⟩, h2, fun hh => by simp at hh⟩
            · show cap ≤ B e'
              omega
            · intro j u hu
              obtain ⟨x, hx, hxu⟩ := flat_get' h0 (fun x _ => hl x) hu
              have := (cells_get (h3 _ x hx)).2 (j % sz) u hxu
              rw [Addr.add_add] at this
              show w.cell? (a.add j) = some u
              rwa [Nat.mul_comm, Nat.div_add_mod] at this
      · simp at h
end

theorem len_succ {α : Type} {l : List α} {n : Nat} (h : l.length = n + 1) : ∃ c r, l = c :: r ∧ r.length = n := by
  cases l with
  | nil => simp at h
  | cons c r => exact ⟨c, r, rfl, by simpa using h⟩
theorem len_zero {α : Type} {l : List α} (h : l.length = 0) : l = [] := List.eq_nil_of_length_eq_zero h

/-- A slice that was handed in. -/
structure SlD {α : Type} (w : World) (f : α → List Value) (ok : α → Prop) (Bn : Nat) (s : SlH) (l : List α) : Prop where
  len : s.n = l.length
  cap : s.n ≤ s.c
  bnd : s.c ≤ Bn
  rd : SlR w s.a s.n (l.flatMap f)
  all : ∀ x ∈ l, ok x
  nil : s.a = none → s.c = 0
theorem SlD.of {α : Type} {w : World} {f : α → List Value} {ok : α → Prop} {Bn : Nat} {cs : List Value}
    (h : ∃ (s : SlH) (l : List α), cs = [s.v] ∧ s.n = l.length ∧ s.n ≤ s.c ∧ s.c ≤ Bn ∧ SlR w s.a s.n (l.flatMap f) ∧ (∀ x ∈ l, ok x) ∧ (s.a = none → s.c = 0)) :
    ∃ s : SlH, cs = [s.v] ∧ ∃ l, SlD w f ok Bn s l := by
  obtain ⟨s, l, h1, h2, h3, h4, h5, h6, h7⟩ := h
  exact ⟨s, h1, l, ⟨h2, h3, h4, h5, h6, h7⟩⟩

end Go.Proofs.YtbpedjefoajegaaDoor.K
namespace Go.Proofs.YtbpedjefoajegaaDoor.K
open Go Go.RowKit

theorem flat_n {α : Type} {f : α → List Value} {sz m : Nat} {l : List α} (hf : ∀ x, (f x).length = sz) (h : l.length = m) : (l.flatMap f).length = m * sz := by rw [flat_len hf, h]
theorem one_flat {α : Type} {f : α → List Value} {l : List α} (h : ∀ x, (f x).all (·.oneCell') = true) : ∀ u ∈ l.flatMap f, u.oneCell' = true := by
  intro u hu
  obtain ⟨x, _, hx⟩ := List.mem_flatMap.1 hu
  exact List.all_eq_true.1 (h x) u hx
theorem addr_add2 (a : Addr) (m o : Nat) : (a.add m).add o = a.add (m + o) := by unfold Addr.add; by_cases h1 : o = 0 <;> by_cases h2 : m = 0 <;> simp [h1, h2, Nat.add_assoc]
theorem flat_drop {α : Type} {f : α → List Value} {sz : Nat} (hf : ∀ x, (f x).length = sz) : ∀ (l : List α) (k : Nat), (l.flatMap f).drop (k * sz) = (l.drop k).flatMap f
  | [], k => by simp
  | x :: l, 0 => by simp
  | x :: l, k + 1 => by
    rw [List.flatMap_cons, show (k + 1) * sz = (f x).length + k * sz from by rw [hf x, Nat.add_mul]; omega, List.drop_length_add_append, flat_drop hf l k]; rfl
theorem flat_take2 {α : Type} {f : α → List Value} {sz : Nat} (hf : ∀ x, (f x).length = sz) : ∀ (l : List α) (k : Nat), (l.flatMap f).take (k * sz) = (l.take k).flatMap f
  | [], k => by simp
  | x :: l, 0 => by simp
  | x :: l, k + 1 => by
    rw [List.flatMap_cons, show (k + 1) * sz = (f x).length + k * sz from by rw [hf x, Nat.add_mul]; omega, List.take_length_add_append, flat_take2 hf l k]; rfl
theorem slr_take2 {α : Type} {w : World} {f : α → List Value} {a : Option Addr} {n k sz : Nat} {l : List α} (hf : ∀ x, (f x).length = sz) (h : SlR w a n (l.flatMap f)) (hk : k ≤ n) : SlR w a k ((l.take k).flatMap f) := by
  refine ⟨fun j u hu => ?_, fun h0 => h.some (by omega)⟩
  rw [← flat_take2 hf, List.getElem?_take] at hu
  split at hu
  · exact h.rd j u hu
  · simp at hu
theorem slr_drop {α : Type} {w : World} {f : α → List Value} {a : Option Addr} {n lo c sz : Nat} {l : List α} (hf : ∀ x, (f x).length = sz) (hl : l.length = n) (h : SlR w a n (l.flatMap f)) (hk : lo ≤ n) (hc : n ≤ c) : SlR w (slOff a c lo sz) (n - lo) ((l.drop lo).flatMap f) := by
  unfold slOff
  by_cases he : c = lo
  · have hd : l.drop lo = [] := List.drop_eq_nil_of_le (by omega)
    rw [if_pos he, hd]
    exact ⟨fun j u hu => by simp at hu, fun h0 => by omega⟩
  · rw [if_neg he]
    refine ⟨fun j u hu => ?_, fun h0 => ?_⟩
    · rw [← flat_drop hf, List.getElem?_drop] at hu
      have := h.rd _ u hu
      cases a with
      | none =>
        exfalso
        have hlt := (List.getElem?_eq_some_iff.1 hu).1
        rw [flat_len hf, hl] at hlt
        have : 0 < n := by
          rcases Nat.eq_zero_or_pos n with q | q
          · subst q; simp at hlt
          · exact q
        have := h.some this
        simp at this
      | some ad =>
        show w.cell? ((ad.add (lo * sz)).add j) = some u
        rw [addr_add2]; exact this
    · have := h.some (by omega)
      cases a with
      | none => simp at this
      | some ad => rfl
section
variable {P : Program} {N : Nat} {ops : Array Oper} {Q : Post} {next : Env → World → Prop} {e : Env} {w w0 : World} {M : Nat → Prop} {L : List Res} {ty : TypeId} {pos : String} {af : Array Edge} {d : Nat}
theorem opStep.appendS {T E ty2 : TypeId} {s x : Operand} {A B : List Res} {sz n m c c0 : Nat} {a a2 : Option Addr} {xs news : List Value} (hp : Hp w0 M (A ++ Res.own E sz (.slice a n c0) n xs :: B) w)
    (bytes : Nat) (hT : appInfo P T = some (E, sz, bytes))
    (hs : ev e s = .slice a n c0) (hx : ev e x = .slice a2 m c) (hr : SlR w a2 m news) (hl : news.length = m * sz) (h1 : ∀ u ∈ news, u.oneCell' = true) (hsz : 0 < sz)
    (hb : (n + m) * bytes ≤ 140737488355328) (h63 : n + m ≤ 9223372036854775807)
    (h : ∀ a' c' w', Hp w0 M (A ++ Res.own E sz (.slice a' (n + m) c') (n + m) (xs ++ news) :: B) w' → next (upd e d (.slice a' (n + m) c')) w') :
    opStep P N ops Q ⟨some d, .call ⟨.builtin .append, #[s, x], #[T, T]⟩, ty2, pos, af, none⟩ next e w := by
  cases a2 with
  | some ad =>
    refine opStep.append hp bytes hT hs hx hl hr.rd h1 hsz hb h63 ?_
    intro v' w' hp' hnil
    obtain ⟨a', c', rfl⟩ := own_slice hp'.get
    exact h a' c' w' hp'
  | none =>
    have hm : m = 0 := by
      rcases Nat.eq_zero_or_pos m with h0 | h0
      · exact h0
      · have := hr.some h0
        simp at this
    subst hm
    have hn : news = [] := List.eq_nil_of_length_eq_zero (by rw [hl]; simp)
    subst hn
    obtain ⟨i, z, hu, hi, hz, rfl, rfl, hzs⟩ := appInfo_spec hT
    have hle : n ≤ c0 := by
      rcases hp.get.2 with ⟨hv, h0⟩ | ⟨g, cap, cur, hv, _, _, h2, _⟩
      · omega
      · simp at hv; omega
    have hrun : (Builtin.append_ #[T, T] ty2 #[.slice a n c0, .slice none 0 c]).run P w = .ok (.slice a n c0) w := by
      cases a <;> simp [Builtin.append_, run_underlying hu, sizeOf, typeInfo, hi, Builtin.lenOf, Builtin.firstCells, hle, storeCells]
    refine opStep.val (v := .slice a n c0) (w' := w) rfl ?_ (h a c0 w ?_)
    · simp [execOp, resolve, invoke, builtin, hs, hx, hrun]
    · rw [List.append_nil]; exact hp
end
end Go.Proofs.YtbpedjefoajegaaDoor.K
namespace Go.Proofs.YtbpedjefoajegaaDoor.K
open Go Go.RowKit

abbrev u8c : Int → List Value := fun y => [.int .u8 y]
def strOf (ns : List Int) : ByteArray := ns.foldl (fun r n => r.push (UInt8.ofNat n.toNat)) ByteArray.empty
def bytesAt (w : World) (s : SlH) : List Int := (List.range s.n).map fun i => match w.cell? ((adr s.a).add i) with | some (.int _ x) => x | _ => 0
def valAt (w : World) (s : SlH) : ByteArray := strOf (bytesAt w s)
theorem u8c_map (ns : List Int) : ns.flatMap u8c = ns.map (Value.int .u8) := by induction ns <;> simp_all [u8c]
theorem Bs.of {P : Program} {w : World} {a : Option Addr} {n c : Nat} {ns : List Int} (h : SlR w a n (ns.flatMap u8c)) (hn : ns.length = n) : Bs P w (.slice a n c) (.string (strOf ns)) := by
  unfold Bs
  cases a with
  | none =>
    have : n = 0 := by
      rcases Nat.eq_zero_or_pos n with h0 | h0
      · exact h0
      · have := h.some h0; simp at this
    subst this
    obtain rfl : ns = [] := List.eq_nil_of_length_eq_zero hn
    simp [Conv.bytesToString, strOf]
  | some ad =>
    refine run_bytesToString w ad n c ns ?_
    have := run_loadCells_list (P := P) w ad (ns.map (Value.int .u8)) (by rw [← u8c_map]; exact h.rd)
    rwa [List.length_map, hn] at this
theorem bytesAt_of {w : World} {s : SlH} {ns : List Int} (h : SlR w s.a s.n (ns.flatMap u8c)) (hn : ns.length = s.n) : bytesAt w s = ns := by
  apply List.ext_getElem?
  intro i
  unfold bytesAt
  rw [List.getElem?_map, ← hn]
  by_cases hi : i < ns.length
  · rw [List.getElem?_range hi, List.getElem?_eq_getElem hi]
    have := h.rd i (.int .u8 ns[i]) (by rw [u8c_map]; simp [hi])
    simp [this]
  · simp [hi]
/-- A slice that holds bytes. -/
def VB (w : World) (s : SlH) : Prop := SlR w s.a s.n ((bytesAt w s).flatMap u8c)
theorem bytesAt_len (w : World) (s : SlH) : (bytesAt w s).length = s.n := by simp [bytesAt]
theorem VB.bs {P : Program} {w0 w : World} {L : List Res} {s : SlH} (h : VB w0 s) (hp : Hp w0 Non L w) : Bs P w s.v (.string (valAt w0 s)) := Bs.of (SlR.at h hp) (bytesAt_len _ _)
theorem VB.of {w : World} {ok : Int → Prop} {Bn : Nat} {s : SlH} {l : List Int} (h : SlD w u8c ok Bn s l) : VB w s := by
  unfold VB
  have h2 : SlR w s.a s.n (l.flatMap u8c) := h.rd
  rw [bytesAt_of h2 h.len.symm]
  exact h2
theorem VB.fram {w w' : World} {s : SlH} (h : VB w s) (hf : Fram Non w w') : bytesAt w' s = bytesAt w s := bytesAt_of (SlR.fram h hf) (bytesAt_len _ _)
end Go.Proofs.YtbpedjefoajegaaDoor.K
namespace Go.Proofs.YtbpedjefoajegaaDoor.K
open Go Go.RowKit
set_option linter.unusedVariables false
def digL (l : List UInt8) : Prop := ∀ c ∈ l, 48 ≤ c.toNat ∧ c.toNat ≤ 57
theorem dig_one {u : Nat} (h : u < 10) : (UInt8.ofNat (48 + u)).toNat = 48 + u := by
  have e : (UInt8.ofNat (48 + u)).toNat = (48 + u) % 256 := by first | exact UInt8.toNat_ofNat' | rfl
  omega
theorem dec_dig : ∀ u : Nat, digL (Lib.decDigits u) ∧ Lib.decDigits u ≠ [] := by
  intro u
  induction u using Nat.strongRecOn with
  | _ u ih =>
    rw [Lib.decDigits]
    by_cases h : u < 10
    · rw [dif_pos h]
      refine ⟨fun c hc => ?_, by simp⟩
      rw [List.mem_singleton.1 hc, dig_one h]; omega
    · rw [dif_neg h]
      refine ⟨fun c hc => ?_, by simp⟩
      rcases List.mem_append.1 hc with hc | hc
      · exact (ih (u / 10) (by omega)).1 c hc
      · rw [List.mem_singleton.1 hc, dig_one (by omega)]; omega
theorem uint10_dec : ∀ (u : Nat) (rest : List UInt8), u ≤ 18446744073709551615 → Lib.parseUint10 0 (Lib.decDigits u ++ rest) = Lib.parseUint10 u rest := by
  intro u
  induction u using Nat.strongRecOn with
  | _ u ih =>
    intro rest hu
    rw [Lib.decDigits]
    by_cases h : u < 10
    · rw [dif_pos h, List.singleton_append, Lib.parseUint10, dig_one h, if_pos (by omega), if_neg (by omega), if_neg (by omega)]
      congr 1; omega
    · rw [dif_neg h, List.append_assoc, ih (u / 10) (by omega) _ (by omega), List.singleton_append, Lib.parseUint10, dig_one (by omega), if_pos (by omega), if_neg (by omega), if_neg (by omega)]
      congr 1; omega
theorem atoi_dec {u : Nat} (hu : u ≤ 9223372036854775807) : Lib.atoiAll (Lib.decDigits u) = .ok (u : Int) := by
  obtain ⟨hd, hn⟩ := dec_dig u
  have h0 := uint10_dec u [] (by omega)
  rw [List.append_nil] at h0
  cases hl : Lib.decDigits u with
  | nil => exact absurd hl hn
  | cons c r =>
    have hc := hd c (by rw [hl]; simp)
    rw [hl] at h0
    unfold Lib.atoiAll
    simp only
    rw [if_neg (by omega)]
    unfold Lib.parseMag
    rw [if_neg (by simp), h0, Lib.parseUint10]
    simp only
    rw [if_neg (by omega), if_neg (by omega), if_neg (by omega)]
def itoaT (n : Int) : ByteArray := ⟨(Lib.itoa n).toArray⟩
theorem itoaT_size {n : Int} (h0 : -9223372036854775808 ≤ n) (h1 : n ≤ 9223372036854775807) : (itoaT n).size ≤ 21 := by
  have := Lib.itoa_length_le n h0 h1
  show (Lib.itoa n).toArray.size ≤ 21
  simpa using this
theorem str_one {x : Int} : (strOf [x]).data.toList = [UInt8.ofNat x.toNat] := rfl
def spL : ByteArray := ⟨#[32]⟩
def noSp (x : ByteArray) : Prop := (32 : UInt8) ∉ x.data.toList
theorem index_in : ∀ (l m : List UInt8) (c : UInt8), c ∉ l → Lib.index (l ++ c :: m) [c] = l.length
  | [], m, c, _ => by simp [Lib.index, List.isPrefixOf]
  | b :: l, m, c, h => by
    have hb : ¬ c = b := fun e => h (by simp [e])
    have ih := index_in l m c (fun q => h (by simp [q]))
    rw [List.cons_append, Lib.index]
    have : (List.isPrefixOf [c] (b :: (l ++ c :: m))) = false := by
      have : (c == b) = false := beq_eq_false_iff_ne.2 hb
      simp [List.isPrefixOf, this]
    rw [this, ih]
    have h2 : ((l.length : Int) == -1) = false := by rw [beq_eq_false_iff_ne]; omega
    rw [if_neg (by decide), h2, if_neg (by decide), List.length_cons]; omega
theorem index_out : ∀ (l : List UInt8) (c : UInt8), c ∉ l → Lib.index l [c] = -1
  | [], c, _ => by simp [Lib.index]
  | b :: l, c, h => by
    have hb : ¬ c = b := fun e => h (by simp [e])
    have ih := index_out l c (fun q => h (by simp [q]))
    rw [Lib.index]
    have : (List.isPrefixOf [c] (b :: l)) = false := by
      have : (c == b) = false := beq_eq_false_iff_ne.2 hb
      simp [List.isPrefixOf, this]
    rw [this, ih]; rfl
def wordsB (s : ByteArray) : List ByteArray := Lib.splitB spL 0 (Lib.countB s spL) s
theorem ba_ext {a b : ByteArray} (h : a.data.toList = b.data.toList) : a = b := by
  cases a with | mk a => cases b with | mk b =>
  simp only at h
  rw [show a = b from by rw [← Array.toArray_toList (xs := a), h, Array.toArray_toList]]
theorem size_list (s : ByteArray) : s.size = s.data.toList.length := by show s.data.size = _; simp
theorem words_one {y : ByteArray} (h : noSp y) : wordsB y = [y] := by
  have hi : Lib.indexB y spL = -1 := index_out _ _ h
  unfold wordsB
  rw [Lib.splitB_miss _ _ _ _ hi]
theorem words_cons {x y : ByteArray} (h : noSp x) : wordsB (x ++ (spL ++ y)) = x :: wordsB y := by
  have hl : (x ++ (spL ++ y)).data.toList = x.data.toList ++ 32 :: y.data.toList := by simp [spL]
  have hi : Lib.indexB (x ++ (spL ++ y)) spL = (x.size : Int) := by
    show Lib.index (x ++ (spL ++ y)).data.toList [32] = _
    rw [hl, index_in _ _ _ h, size_list]
  have he : (x ++ (spL ++ y)).extract (x.size + spL.size) (x ++ (spL ++ y)).size = y := by
    apply ba_ext
    rw [ByteArray.data_extract, Array.toList_extract, hl]
    have e1 : x.size + spL.size = x.data.toList.length + 1 := by rw [size_list]; rfl
    have e2 : (x ++ (spL ++ y)).size = x.data.toList.length + 1 + y.data.toList.length := by rw [size_list, hl]; simp; omega
    rw [e1, e2, List.extract_eq_take_drop, show x.data.toList ++ 32 :: y.data.toList = (x.data.toList ++ [32]) ++ y.data.toList from by simp, List.drop_left' (by simp), List.take_of_length_le (by omega)]
  have hx : (x ++ (spL ++ y)).extract 0 (x.size + 0) = x := by
    apply ba_ext
    rw [ByteArray.data_extract, Array.toList_extract, hl, List.extract_eq_take_drop, List.drop_zero, show x.size + 0 - 0 = x.data.toList.length from by rw [size_list]; omega, List.take_left' rfl]
  have hc := Lib.countB_hit (x ++ (spL ++ y)) spL x.size (by decide) hi
  rw [he] at hc
  unfold wordsB
  rw [hc, Nat.add_comm 1, Lib.splitB_hit _ _ _ _ _ hi, hx, he]
theorem itoaT_list (n : Int) : (itoaT n).data.toList = Lib.itoa n := rfl
theorem itoa_chars {n : Int} : (∀ c ∈ Lib.itoa n, c = 45 ∨ (48 ≤ c.toNat ∧ c.toNat ≤ 57)) ∧ ∃ l c, Lib.itoa n = l ++ [c] ∧ 48 ≤ c.toNat ∧ c.toNat ≤ 57 := by
  have hd : ∀ u, ∃ l c, Lib.decDigits u = l ++ [c] ∧ 48 ≤ c.toNat ∧ c.toNat ≤ 57 := by
    intro u
    rcases List.eq_nil_or_concat (Lib.decDigits u) with q | ⟨l, c, q⟩
    · exact absurd q (dec_dig u).2
    · refine ⟨l, c, by rw [q, List.concat_eq_append], (dec_dig u).1 c (by rw [q]; simp)⟩
  unfold Lib.itoa
  split
  · refine ⟨fun c hc => ?_, ?_⟩
    · rcases List.mem_cons.1 hc with rfl | hc
      · exact .inl rfl
      · exact .inr ((dec_dig _).1 c hc)
    · obtain ⟨l, c, h1, h2⟩ := hd n.natAbs
      exact ⟨45 :: l, c, by rw [h1]; rfl, h2⟩
  · exact ⟨fun c hc => .inr ((dec_dig _).1 c hc), hd _⟩
theorem itoa_nosp (n : Int) : noSp (itoaT n) := by
  unfold noSp
  rw [itoaT_list]
  intro h
  rcases itoa_chars.1 32 h with q | q
  · exact absurd q (by decide)
  · exact absurd q.1 (by decide)
theorem atoi_back {n : Int} (h0 : -9223372036854775808 ≤ n) (h1 : n ≤ 9223372036854775807) : Lib.atoiAll (itoaT n).data.toList = .ok n := by
  rw [itoaT_list]
  unfold Lib.itoa
  by_cases h : n < 0
  · rw [if_pos h]
    obtain ⟨hd, hn⟩ := dec_dig n.natAbs
    have h2 := uint10_dec n.natAbs [] (by omega)
    rw [List.append_nil] at h2
    unfold Lib.atoiAll
    simp only
    rw [if_pos (by decide)]
    unfold Lib.parseMag
    rw [if_neg hn, h2, Lib.parseUint10]
    simp only
    rw [if_neg (by intro q; exact absurd q.1 (by decide)), if_neg (by omega), if_pos (by decide)]
    congr 1; omega
  · rw [if_neg h, atoi_dec (by omega)]
    congr 1; omega
def inI (n : Int) : Prop := -9223372036854775808 ≤ n ∧ n ≤ 9223372036854775807
theorem ba_assoc (a b c : ByteArray) : a ++ b ++ c = a ++ (b ++ c) := ba_ext (by simp)
structure NumR (bad : Bool) (ws : List ByteArray) (v : Int) (b' : Bool) : Prop where
  rng : inI v
  no : b' = false → bad = false
  yes : ∀ s u, bad = false → ws.head? = some s → Lib.atoiAll s.data.toList = .ok u → b' = false ∧ v = u
theorem itoaT_inj {a b : Int} (ra : inI a) (rb : inI b) (h : itoaT a = itoaT b) : a = b := by
  have h1 := atoi_back ra.1 ra.2
  rw [h, atoi_back rb.1 rb.2] at h1
  exact (Lib.NumEnd.ok.inj h1).symm
theorem num_of {bad : Bool} {ws : List ByteArray} {v : Int} {b' : Bool} (hv : inI v) (h : (b' = true ∧ (bad || ws.isEmpty) = true) ∨ (¬ (bad || ws.isEmpty) = true ∧ ((b' = true ∧ ∀ u, Lib.atoiAll (ws.headD ByteArray.empty).data.toList ≠ .ok u) ∨ (b' = false ∧ Lib.atoiAll (ws.headD ByteArray.empty).data.toList = .ok v)))) : NumR bad ws v b' := by
  refine ⟨hv, fun e => ?_, fun s u h1 h2 h3 => ?_⟩
  · subst e
    rcases h with ⟨h, _⟩ | ⟨h, _⟩
    · cases h
    · cases bad
      · rfl
      · exact absurd rfl h
  · subst h1
    cases ws with
    | nil => simp at h2
    | cons x r =>
      simp only [List.head?_cons, Option.some.injEq] at h2
      subst h2
      rcases h with ⟨_, h⟩ | ⟨_, ⟨_, h⟩ | ⟨h, h4⟩⟩
      · cases h
      · exact absurd h3 (h u)
      · refine ⟨h, ?_⟩
        have h4 : Lib.atoiAll x.data.toList = .ok v := h4
        rw [h3] at h4
        exact (Lib.NumEnd.ok.inj h4).symm
theorem words_size : ∀ (k : Nat) (s x : ByteArray), x ∈ Lib.splitB spL 0 k s → x.size ≤ s.size
  | 0, s, x, h => by
    rw [Lib.splitB_zero, List.mem_singleton] at h; subst h; exact Nat.le_refl _
  | k + 1, s, x, h => by
    rcases Lib.indexB_cases s spL with hi | ⟨i, hi, hr⟩
    · rw [Lib.splitB_miss _ _ _ _ hi, List.mem_singleton] at h; subst h; exact Nat.le_refl _
    · rw [Lib.splitB_hit _ _ _ _ _ hi] at h
      rcases List.mem_cons.1 h with rfl | h
      · rw [ByteArray.size_extract]; omega
      · have := words_size k _ x h
        rw [ByteArray.size_extract] at this; omega
theorem head_size {ws : List ByteArray} {m : Nat} (h : ∀ x ∈ ws, x.size ≤ m) : (ws.headD ByteArray.empty).size ≤ m := by
  cases ws with
  | nil => exact Nat.zero_le _
  | cons x r => exact h x (by simp)
theorem tail_size {ws : List ByteArray} {m : Nat} (h : ∀ x ∈ ws, x.size ≤ m) : ∀ x ∈ ws.tail, x.size ≤ m := fun x hx => h x (List.mem_of_mem_tail hx)
abbrev strc : ByteArray → List Go.Value := fun y => [.string y]
/-- A list of texts that is read, whatever block it lies in. -/
def Res.lst (g : Nat) (h : SlH) (ws : List ByteArray) : Res :=
  ⟨fun k => k = g, fun w => (0 < h.n → (adr h.a).block = g) ∧ SlR w h.a h.n (List.flatMap strc ws) ∧ h.n = ws.length ∧ h.n ≤ h.c ∧ h.c ≤ 8589934592, by
    rintro w w' hk ⟨h1, h2, h3⟩
    refine ⟨h1, ⟨?_, h2.some⟩, h3⟩
    by_cases h0 : 0 < h.n
    · exact h2.rd.keep fun _ => hk _ (h1 h0)
    · have : ws = [] := List.eq_nil_of_length_eq_zero (by omega)
      subst this
      intro j u hu; simp at hu⟩
theorem lst_slr {w : World} {g : Nat} {h : SlH} {ws : List ByteArray} (k : (Res.lst g h ws).holds w) : SlR w h.a h.n (List.flatMap strc ws) := k.2.1
theorem lst_len {w : World} {g : Nat} {h : SlH} {ws : List ByteArray} (k : (Res.lst g h ws).holds w) : h.n = ws.length ∧ h.n ≤ h.c ∧ h.c ≤ 8589934592 := k.2.2
theorem lst_tail {w : World} {g : Nat} {h : SlH} {ws : List ByteArray} (hn : 0 < h.n) (k : (Res.lst g h ws).holds w) : (Res.lst g ⟨slOff h.a h.c 1 1, h.n - 1, h.c - 1⟩ ws.tail).holds w := by
  obtain ⟨h1, h2, h3, h4, h5⟩ := k
  refine ⟨fun h0 => ?_, ?_, by rw [List.length_tail]; show h.n - 1 = _; omega, by show h.n - 1 ≤ h.c - 1; omega, by show h.c - 1 ≤ _; omega⟩
  · have := h1 hn
    show (adr (slOff h.a h.c 1 1)).block = g
    unfold slOff
    rw [if_neg (by have : 0 < h.n - 1 := h0; omega)]
    have hs := h2.some hn
    cases ha : h.a with
    | none => rw [ha] at hs; cases hs
    | some x =>
      rw [ha] at this
      show ((x.add (1 * 1))).block = g
      have : x.block = g := this
      unfold Addr.add; split <;> exact this
  · have := slr_drop (lo := 1) (c := h.c) (sz := 1) (fun _ => rfl) h3.symm h2 (by omega) h4
    rwa [List.drop_one] at this
theorem strc_map : ∀ ws : List ByteArray, List.flatMap strc ws = ws.map Go.Value.string
  | [] => rfl
  | x :: l => by rw [List.flatMap_cons, strc_map l]; rfl
theorem lst_row {w : World} {b n : Nat} {ws : List ByteArray} {t : TypeId} (hb : w.heap[b]? = some (.cells (ws.map Go.Value.string).toArray t (0, 0))) (hn : ws.length = n) (hs : n ≤ 8589934592) : (Res.lst b ⟨some ⟨b, 0, none⟩, n, n⟩ ws).holds w := by
  refine ⟨fun _ => rfl, ⟨fun j u hu => ?_, fun _ => rfl⟩, hn.symm, Nat.le_refl _, hs⟩
  show w.cell? ((⟨b, 0, none⟩ : Addr).add j) = some u
  rw [add_mk, Nat.zero_add]
  unfold World.cell?
  rw [strc_map] at hu
  simp only [hb]
  simpa using hu
end Go.Proofs.YtbpedjefoajegaaDoor.K
namespace Go.Proofs.YtbpedjefoajegaaDoor.K
open Go Go.Proofs Go.RowKit Go.Shelf Go.Lib
def rI : Go.Shelf.Ren := ⟨fun | 171 => 28 | 243 => 50 | 246 => 57 | 283 => 66 | 284 => 67 | 285 => 68 | 286 => 69 | 129 => 82 | 317 => 81 | 318 => 83 | 319 => 84 | 320 => 85 | 337 => 94 | 338 => 95 | n => n,
  fun | 3 => 3 | 9 => 9 | 2 => 2 | 4 => 4 | 171 => 99 | 0 => 0 | 53 => 86 | 37 => 28 | 5 => 5 | 173 => 102 | 212 => 115 | 51 => 116 | 20 => 20 | 213 => 117 | 46 => 84 | 232 => 135 | 233 => 136 | n => n,
  fun | 17 => 2 | 18 => 8 | 19 => 9 | n => n⟩
theorem lI : LaysM.n171 Tryd.prog rI := {
  mixed := (by kernel_rfl),
  f129 := Tryd.func82.trans (congrArg some (by kernel_rfl)),
  f171 := Tryd.func28.trans (congrArg some (by kernel_rfl)),
  f243 := Tryd.func50.trans (congrArg some (by kernel_rfl)),
  f246 := Tryd.func57.trans (congrArg some (by kernel_rfl)),
  f283 := Tryd.func66.trans (congrArg some (by kernel_rfl)),
  f284 := Tryd.func67.trans (congrArg some (by kernel_rfl)),
  f285 := Tryd.func68.trans (congrArg some (by kernel_rfl)),
  f286 := Tryd.func69.trans (congrArg some (by kernel_rfl)),
  f317 := Tryd.func81.trans (congrArg some (by kernel_rfl)),
  f318 := Tryd.func83.trans (congrArg some (by kernel_rfl)),
  f319 := Tryd.func84.trans (congrArg some (by kernel_rfl)),
  f320 := Tryd.func85.trans (congrArg some (by kernel_rfl)),
  f337 := Tryd.func94.trans (congrArg some (by kernel_rfl)),
  f338 := Tryd.func95.trans (congrArg some (by kernel_rfl)),
  t0 := Tryd.underlying0,
  a0 := Tryd.isAgg0,
  z0 := Tryd.sizeOf0,
  v0 := Tryd.zeroValue0,
  t2 := Tryd.underlying2,
  a2 := Tryd.isAgg2,
  z2 := Tryd.sizeOf2,
  v2 := Tryd.zeroValue2,
  t3 := Tryd.underlying3,
  a3 := Tryd.isAgg3,
  z3 := Tryd.sizeOf3,
  v3 := Tryd.zeroValue3,
  t4 := Tryd.underlying4,
  a4 := Tryd.isAgg4,
  z4 := Tryd.sizeOf4,
  v4 := Tryd.zeroValue4,
  t5 := Tryd.underlying5,
  a5 := Tryd.isAgg5,
  z5 := Tryd.sizeOf5,
  v5 := Tryd.zeroValue5,
  t9 := Tryd.underlying9,
  a9 := Tryd.isAgg9,
  z9 := Tryd.sizeOf9,
  v9 := Tryd.zeroValue9,
  t20 := Tryd.underlying20,
  a20 := Tryd.isAgg20,
  z20 := Tryd.sizeOf20,
  v20 := Tryd.zeroValue20,
  t37 := Tryd.underlying28,
  a37 := Tryd.isAgg28,
  z37 := Tryd.sizeOf28,
  v37 := Tryd.zeroValue28,
  t46 := Tryd.underlying84,
  a46 := Tryd.isAgg84,
  z46 := Tryd.sizeOf84,
  v46 := Tryd.zeroValue84,
  t51 := Tryd.underlying116,
  a51 := Tryd.isAgg116,
  z51 := Tryd.sizeOf116,
  v51 := Tryd.zeroValue116,
  t53 := Tryd.underlying86,
  a53 := Tryd.isAgg86,
  z53 := Tryd.sizeOf86,
  v53 := Tryd.zeroValue86,
  t171 := Tryd.underlying99,
  a171 := Tryd.isAgg99,
  z171 := Tryd.sizeOf99,
  v171 := Tryd.zeroValue99,
  t173 := Tryd.underlying102,
  a173 := Tryd.isAgg102,
  z173 := Tryd.sizeOf102,
  v173 := Tryd.zeroValue102,
  t212 := Tryd.underlying115,
  a212 := Tryd.isAgg115,
  z212 := Tryd.sizeOf115,
  v212 := Tryd.zeroValue115,
  t213 := Tryd.underlying117,
  a213 := Tryd.isAgg117,
  z213 := Tryd.sizeOf117,
  t232 := Tryd.underlying135,
  a232 := Tryd.isAgg135,
  z232 := Tryd.sizeOf135,
  v232 := Tryd.zeroValue135,
  t233 := Tryd.underlying136,
  a233 := Tryd.isAgg136,
  z233 := Tryd.sizeOf136,
  v233 := Tryd.zeroValue136,
  g17 := (by kernel_rfl),
  g18 := (by kernel_rfl),
  g19 := (by kernel_rfl),
  i0 := (by kernel_rfl),
  i2 := (by kernel_rfl),
  i3 := (by kernel_rfl),
  i4 := (by kernel_rfl),
  i5 := (by kernel_rfl),
  i9 := (by kernel_rfl),
  i20 := (by kernel_rfl),
  i37 := (by kernel_rfl),
  i46 := (by kernel_rfl),
  i51 := (by kernel_rfl),
  i53 := (by kernel_rfl),
  i171 := (by kernel_rfl),
  i173 := (by kernel_rfl),
  i212 := (by kernel_rfl),
  i232 := (by kernel_rfl),
  i233 := (by kernel_rfl),
  m17 := (by kernel_rfl),
  m18 := (by kernel_rfl),
  m19 := (by kernel_rfl) }
def rA : Go.Shelf.Ren := ⟨fun | 172 => 54 | 244 => 63 | 245 => 64 | 247 => 75 | 279 => 76 | 280 => 77 | 281 => 78 | 282 => 79 | 287 => 90 | 316 => 91 | 171 => 28 | 205 => 92 | 321 => 97 | 322 => 98 | 243 => 50 | 246 => 57 | 283 => 66 | 284 => 67 | 285 => 68 | 286 => 69 | 129 => 82 | 317 => 81 | 318 => 83 | 319 => 84 | 320 => 85 | 337 => 94 | 338 => 95 | n => n,
  fun | 9 => 9 | 3 => 3 | 75 => 50 | 76 => 51 | 4 => 4 | 5 => 5 | 167 => 107 | 37 => 28 | 0 => 0 | 85 => 108 | 2 => 2 | 168 => 110 | 53 => 86 | 175 => 119 | 46 => 84 | 210 => 122 | 127 => 79 | 145 => 134 | 143 => 132 | 21 => 21 | 171 => 99 | 173 => 102 | 212 => 115 | 51 => 116 | 20 => 20 | 213 => 117 | 232 => 135 | 233 => 136 | 80 => 54 | n => n,
  fun | 15 => 4 | 16 => 5 | 17 => 2 | 18 => 8 | 19 => 9 | n => n⟩
theorem lA : LaysC.n172 Tryd.prog rA := {
  mixed := (by kernel_rfl),
  f129 := Tryd.func82.trans (congrArg some (by kernel_rfl)),
  f171 := Tryd.func28.trans (congrArg some (by kernel_rfl)),
  f172 := Tryd.func54.trans (congrArg some (by kernel_rfl)),
  f205 := Tryd.func92.trans (congrArg some (by kernel_rfl)),
  f243 := Tryd.func50.trans (congrArg some (by kernel_rfl)),
  f244 := Tryd.func63.trans (congrArg some (by kernel_rfl)),
  f245 := Tryd.func64.trans (congrArg some (by kernel_rfl)),
  f246 := Tryd.func57.trans (congrArg some (by kernel_rfl)),
  f247 := Tryd.func75.trans (congrArg some (by kernel_rfl)),
  f279 := Tryd.func76.trans (congrArg some (by kernel_rfl)),
  f280 := Tryd.func77.trans (congrArg some (by kernel_rfl)),
  f281 := Tryd.func78.trans (congrArg some (by kernel_rfl)),
  f282 := Tryd.func79.trans (congrArg some (by kernel_rfl)),
  f283 := Tryd.func66.trans (congrArg some (by kernel_rfl)),
  f284 := Tryd.func67.trans (congrArg some (by kernel_rfl)),
  f285 := Tryd.func68.trans (congrArg some (by kernel_rfl)),
  f286 := Tryd.func69.trans (congrArg some (by kernel_rfl)),
  f287 := Tryd.func90.trans (congrArg some (by kernel_rfl)),
  f316 := Tryd.func91.trans (congrArg some (by kernel_rfl)),
  f317 := Tryd.func81.trans (congrArg some (by kernel_rfl)),
  f318 := Tryd.func83.trans (congrArg some (by kernel_rfl)),
  f319 := Tryd.func84.trans (congrArg some (by kernel_rfl)),
  f320 := Tryd.func85.trans (congrArg some (by kernel_rfl)),
  f321 := Tryd.func97.trans (congrArg some (by kernel_rfl)),
  f322 := Tryd.func98.trans (congrArg some (by kernel_rfl)),
  f337 := Tryd.func94.trans (congrArg some (by kernel_rfl)),
  f338 := Tryd.func95.trans (congrArg some (by kernel_rfl)),
  t0 := Tryd.underlying0,
  a0 := Tryd.isAgg0,
  z0 := Tryd.sizeOf0,
  v0 := Tryd.zeroValue0,
  t2 := Tryd.underlying2,
  a2 := Tryd.isAgg2,
  z2 := Tryd.sizeOf2,
  v2 := Tryd.zeroValue2,
  t3 := Tryd.underlying3,
  a3 := Tryd.isAgg3,
  z3 := Tryd.sizeOf3,
  v3 := Tryd.zeroValue3,
  t4 := Tryd.underlying4,
  a4 := Tryd.isAgg4,
  z4 := Tryd.sizeOf4,
  v4 := Tryd.zeroValue4,
  t5 := Tryd.underlying5,
  a5 := Tryd.isAgg5,
  z5 := Tryd.sizeOf5,
  v5 := Tryd.zeroValue5,
  t9 := Tryd.underlying9,
  a9 := Tryd.isAgg9,
  z9 := Tryd.sizeOf9,
  v9 := Tryd.zeroValue9,
  t20 := Tryd.underlying20,
  a20 := Tryd.isAgg20,
  z20 := Tryd.sizeOf20,
  v20 := Tryd.zeroValue20,
  t21 := Tryd.underlying21,
  a21 := Tryd.isAgg21,
  z21 := Tryd.sizeOf21,
  v21 := Tryd.zeroValue21,
  t37 := Tryd.underlying28,
  a37 := Tryd.isAgg28,
  z37 := Tryd.sizeOf28,
  v37 := Tryd.zeroValue28,
  t46 := Tryd.underlying84,
  a46 := Tryd.isAgg84,
  z46 := Tryd.sizeOf84,
  v46 := Tryd.zeroValue84,
  t51 := Tryd.underlying116,
  a51 := Tryd.isAgg116,
  z51 := Tryd.sizeOf116,
  v51 := Tryd.zeroValue116,
  t53 := Tryd.underlying86,
  a53 := Tryd.isAgg86,
  z53 := Tryd.sizeOf86,
  v53 := Tryd.zeroValue86,
  t75 := Tryd.underlying50,
  a75 := Tryd.isAgg50,
  z75 := Tryd.sizeOf50,
  v75 := Tryd.zeroValue50,
  t76 := Tryd.underlying51,
  a76 := Tryd.isAgg51,
  z76 := Tryd.sizeOf51,
  v76 := Tryd.zeroValue51,
  t85 := Tryd.underlying108,
  a85 := Tryd.isAgg108,
  z85 := Tryd.sizeOf108,
  v85 := Tryd.zeroValue108,
  t127 := Tryd.underlying79,
  a127 := Tryd.isAgg79,
  z127 := Tryd.sizeOf79,
  v127 := Tryd.zeroValue79,
  t143 := Tryd.underlying132,
  a143 := Tryd.isAgg132,
  z143 := Tryd.sizeOf132,
  v143 := Tryd.zeroValue132,
  t145 := Tryd.underlying134,
  a145 := Tryd.isAgg134,
  z145 := Tryd.sizeOf134,
  v145 := Tryd.zeroValue134,
  t167 := Tryd.underlying107,
  a167 := Tryd.isAgg107,
  z167 := Tryd.sizeOf107,
  v167 := Tryd.zeroValue107,
  t168 := Tryd.underlying110,
  a168 := Tryd.isAgg110,
  z168 := Tryd.sizeOf110,
  v168 := Tryd.zeroValue110,
  t171 := Tryd.underlying99,
  a171 := Tryd.isAgg99,
  z171 := Tryd.sizeOf99,
  v171 := Tryd.zeroValue99,
  t173 := Tryd.underlying102,
  a173 := Tryd.isAgg102,
  z173 := Tryd.sizeOf102,
  v173 := Tryd.zeroValue102,
  t175 := Tryd.underlying119,
  a175 := Tryd.isAgg119,
  z175 := Tryd.sizeOf119,
  v175 := Tryd.zeroValue119,
  t210 := Tryd.underlying122,
  a210 := Tryd.isAgg122,
  z210 := Tryd.sizeOf122,
  v210 := Tryd.zeroValue122,
  t212 := Tryd.underlying115,
  a212 := Tryd.isAgg115,
  z212 := Tryd.sizeOf115,
  v212 := Tryd.zeroValue115,
  t213 := Tryd.underlying117,
  a213 := Tryd.isAgg117,
  z213 := Tryd.sizeOf117,
  t232 := Tryd.underlying135,
  a232 := Tryd.isAgg135,
  z232 := Tryd.sizeOf135,
  v232 := Tryd.zeroValue135,
  t233 := Tryd.underlying136,
  a233 := Tryd.isAgg136,
  z233 := Tryd.sizeOf136,
  v233 := Tryd.zeroValue136,
  g15 := (by kernel_rfl),
  g16 := (by kernel_rfl),
  g17 := (by kernel_rfl),
  g18 := (by kernel_rfl),
  g19 := (by kernel_rfl),
  t80 := Tryd.underlying54,
  a80 := Tryd.isAgg54,
  z80 := Tryd.sizeOf54,
  v80 := Tryd.zeroValue54,
  i0 := (by kernel_rfl),
  i2 := (by kernel_rfl),
  i3 := (by kernel_rfl),
  i4 := (by kernel_rfl),
  i5 := (by kernel_rfl),
  i9 := (by kernel_rfl),
  i20 := (by kernel_rfl),
  i21 := (by kernel_rfl),
  i37 := (by kernel_rfl),
  i46 := (by kernel_rfl),
  i51 := (by kernel_rfl),
  i53 := (by kernel_rfl),
  i75 := (by kernel_rfl),
  i76 := (by kernel_rfl),
  i80 := (by kernel_rfl),
  i85 := (by kernel_rfl),
  i127 := (by kernel_rfl),
  i143 := (by kernel_rfl),
  i145 := (by kernel_rfl),
  i167 := (by kernel_rfl),
  i168 := (by kernel_rfl),
  i171 := (by kernel_rfl),
  i173 := (by kernel_rfl),
  i175 := (by kernel_rfl),
  i210 := (by kernel_rfl),
  i212 := (by kernel_rfl),
  i232 := (by kernel_rfl),
  i233 := (by kernel_rfl),
  m15 := (by kernel_rfl),
  m16 := (by kernel_rfl),
  m17 := (by kernel_rfl),
  m18 := (by kernel_rfl),
  m19 := (by kernel_rfl),
  c0 := (by kernel_rfl),
  c2 := (by kernel_rfl),
  c3 := (by kernel_rfl),
  c4 := (by kernel_rfl),
  c5 := (by kernel_rfl),
  c9 := (by kernel_rfl),
  c20 := (by kernel_rfl),
  c21 := (by kernel_rfl),
  c37 := (by kernel_rfl),
  c46 := (by kernel_rfl),
  c51 := (by kernel_rfl),
  c53 := (by kernel_rfl),
  c75 := (by kernel_rfl),
  c76 := (by kernel_rfl),
  c80 := (by kernel_rfl),
  c85 := (by kernel_rfl),
  c127 := (by kernel_rfl),
  c143 := (by kernel_rfl),
  c145 := (by kernel_rfl),
  c167 := (by kernel_rfl),
  c168 := (by kernel_rfl),
  c171 := (by kernel_rfl),
  c173 := (by kernel_rfl),
  c175 := (by kernel_rfl),
  c210 := (by kernel_rfl),
  c212 := (by kernel_rfl),
  c213 := (by kernel_rfl),
  c232 := (by kernel_rfl),
  c233 := (by kernel_rfl) }
def TabP (w : World) : Prop := Lib.TabIs Tryd.prog w "internal/strconv.uint64pow10" .u64 Lib.pow10Tab
theorem tab_named : Tryd.prog.globalNamed "internal/strconv.uint64pow10" = some 2 := by kernel_rfl
theorem TabP.fram {w w' : World} (h : TabP w) (hf : Fram Non w w') : TabP w' := Go.Joins.tab_stays tab_named h hf.below (Nat.le_refl _)
def CellV (g : Nat) (p : Go.Value → Prop) (w : World) : Prop := ∃ v, w.cell? ⟨g, 0, none⟩ = some v ∧ p v
def errV (v : Go.Value) : Prop := v = .nilIface ∨ ∃ te pe, v = .iface te pe
def intV (v : Go.Value) : Prop := ∃ m, v = .int .i64 m
theorem CellV.fram {g : Nat} {p : Go.Value → Prop} {w w' : World} (h : CellV g p w) (hf : Fram Non w w') : CellV g p w' := by
  obtain ⟨v, h1, h2⟩ := h
  refine ⟨v, ?_, h2⟩
  have hlt : g < w.heap.size := Lib.lt_of_cell h1
  unfold World.cell? at h1 ⊢
  simp only at h1 ⊢
  rw [hf.block g hlt id]; exact h1
structure LibP (w : World) : Prop where
  tab : TabP w
  syn : CellV 4 errV w
  rng : CellV 5 errV w
  mx : CellV 3 intV w
theorem LibP.fram {w w' : World} (h : LibP w) (hf : Fram Non w w') : LibP w' := ⟨h.tab.fram hf, h.syn.fram hf, h.rng.fram hf, h.mx.fram hf⟩
theorem it_grown (w : World) (q : Nat) (os : Array Obj) : Fram Non w (Sort.grow (w.drewN q) os) :=
  ⟨rfl, rfl, rfl, by simp [Sort.grow], fun i hi _ => by
    show ((w.drewN q).heap ++ os)[i]? = _
    rw [Array.getElem?_append_left (by show i < w.heap.size; omega)]
    rfl⟩
theorem fram_bytes {w w' : World} {T : TypeId} (h : w' = w ∨ ∃ t, w' = Lib.bytesWorld w T t) : Fram Non w w' := by
  rcases h with rfl | ⟨t, rfl⟩
  · exact Fram.refl _ _
  · exact Fram.of_below (Lib.bytesWorld_below _ _ _)
theorem itoa_c (n : Int) (h0 : -9223372036854775808 ≤ n) (h1 : n ≤ 9223372036854775807) (w : World) (hl : LibP w) : Calls Tryd.prog 28 #[.int .i64 n] w (fun x w' => x = .returned (.string (itoaT n)) ∧ Fram Non w w') := by
  refine (Any.strconv_Itoa lI n h0 h1 w hl.tab).mono ?_
  rintro e w' ⟨rfl, k, os, rfl⟩
  exact ⟨rfl, it_grown w k os⟩
end Go.Proofs.YtbpedjefoajegaaDoor.K
