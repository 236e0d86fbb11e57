/- Ends of calls; tests; slices that are read. -/
import Derived.Test.YtbpedjefoajegaaDoorCoreM
namespace Go.Proofs.YtbpedjefoajegaaDoor.K
open Go Go.RowKit

/-- What a Bool says. -/
def Bp (b : Bool) (p : Prop) : Prop := b = true ↔ p
theorem Bp.dec {p : Prop} [Decidable p] : Bp (decide p) p := by unfold Bp; simp
theorem Bp.var {b : Bool} : Bp b (b = true) := Iff.rfl
theorem Bp.and {a b : Bool} {p q : Prop} (h : Bp a p) (k : Bp b q) : Bp (bif a then b else false) (p ∧ q) := by unfold Bp at *; rw [← h, ← k]; cases a <;> simp
theorem Bp.or {a b : Bool} {p q : Prop} (h : Bp a p) (k : Bp b q) : Bp (bif a then true else b) (p ∨ q) := by unfold Bp at *; rw [← h, ← k]; cases a <;> simp
theorem Bp.ite {a b c : Bool} {p q s : Prop} (h : Bp a p) (k : Bp b q) (l : Bp c s) : Bp (bif a then b else c) ((p ∧ q) ∨ (¬ p ∧ s)) := by unfold Bp at *; rw [← h, ← k, ← l]; cases a <;> simp
theorem Bp.band {a b : Bool} {p q : Prop} (h : Bp a p) (k : Bp b q) : Bp (a && b) (p ∧ q) := by unfold Bp at *; rw [← h, ← k]; cases a <;> simp
theorem Bp.bor {a b : Bool} {p q : Prop} (h : Bp a p) (k : Bp b q) : Bp (a || b) (p ∨ q) := by unfold Bp at *; rw [← h, ← k]; cases a <;> simp
theorem Bp.not {a : Bool} {p : Prop} (h : Bp a p) : Bp (!a) (¬ p) := by unfold Bp at *; rw [← h]; cases a <;> simp
theorem Bp.nn {a : Bool} {p : Prop} (h : Bp a (¬ p)) : Bp (!a) p := by
  unfold Bp at *
  rcases Classical.em p with hp | hp <;> cases a <;> simp_all
theorem Bp.band1 {a : Bool} {p : Prop} (h : Bp a p) : Bp (a && true) p := by unfold Bp at *; rw [← h]; cases a <;> simp
theorem Bp.t : Bp true True := by unfold Bp; simp
theorem Bp.f : Bp false False := by unfold Bp; simp
theorem Bp.of {b : Bool} {p q : Prop} (h : Bp b p) (k : p ↔ q) : Bp b q := h.trans k
theorem Bp.is {b : Bool} {p : Prop} [Decidable p] (h : Bp b p) : b = decide p := by unfold Bp at h; rw [Bool.eq_iff_iff, h]; simp
theorem Bp.tt {b : Bool} {p : Prop} (h : Bp b p) (k : p) : b = true := h.2 k
theorem Bp.ff {b : Bool} {p : Prop} (h : Bp b p) (k : ¬ p) : b = false := by cases b; rfl; exact absurd (h.1 rfl) k

section
variable {P : Program} {N : Nat} {Q : Post} {e : Env} {w : World}
theorem WP.test {c : Operand} {x y : Code} {b : Bool} {p : Prop} (hc : ev e c = .bool b) (hb : Bp b p) (ht : p → WP P N x Q e w) (hf : ¬ p → WP P N y Q e w) :
    WP P N (.cond c x y) Q e w := by
  cases b with
  | true => exact WP.condT hc (ht (hb.1 rfl))
  | false => exact WP.condF hc (hf (fun h => by have := hb.2 h; cases this))
variable {K : Env → World → Prop}
theorem thn_n (h : K e w) : thn K Q .normal e w := h
theorem thn_r (h : Q .ret e w) : thn K Q .ret e w := h
theorem thn_x {j : Nat} (h : Q (.exit j) e w) : thn K Q (.exit j) e w := h
theorem blk_n {i : Nat} (h : Q .normal e w) : inBlock i Q .normal e w := h
theorem blk_r {i : Nat} (h : Q .ret e w) : inBlock i Q .ret e w := h
theorem blk_hit {i : Nat} (h : Q .normal e w) : inBlock i Q (.exit i) e w := by
  show bif Nat.beq i i then Q .normal e w else Q (.exit i) e w
  rw [show Nat.beq i i = true from Nat.beq_refl i]; exact h
theorem blk_miss {i j : Nat} (hne : Nat.beq j i = false) (h : Q (.exit j) e w) : inBlock i Q (.exit j) e w := by
  show bif Nat.beq j i then Q .normal e w else Q (.exit j) e w
  rw [hne]; exact h

/-- What a call's results are. -/
def ResL (P : Program) (w : World) (e : Env) : List ResultVar → List Value → Prop
  | [], [] => True
  | .tmp t :: r, v :: vs => e t = v ∧ ResL P w e r vs
  | .cell a T :: r, v :: vs => (∃ ad, e a = .pointer (some ad) ∧ Ld P w T ad v) ∧ ResL P w e r vs
  | _, _ => False
def pack : List Value → Value
  | [v] => v
  | vs => .tuple vs.toArray
theorem run_results {P : Program} {w : World} {a : Act} {N : Nat} (hi : Is N a e) : ∀ (rs : List ResultVar) (vs : List Value), ResL P w e rs vs →
    (rs.mapM fun (r : ResultVar) => (match r with
      | .tmp t => pure (a.tmps.getD t undef)
      | .cell d t => do loadVar t (← asAddr (a.tmps.getD d undef)) : Sem Value)).run P w = .ok vs w
  | [], [], _ => by simp
  | [], _ :: _, h => h.elim
  | .tmp t :: r, v :: vs, h => by
    have ih := run_results hi r vs h.2
    simp only [List.mapM_cons, Sem.run_bind, Sem.run_pure, Result.andThen_ok, ih, hi.get t, h.1]
  | .cell d T :: r, v :: vs, h => by
    have ih := run_results hi r vs h.2
    obtain ⟨ad, h1, h2⟩ := h.1
    have h2' : (loadVar T ad).run P w = .ok v w := h2
    have hda : (asAddr (a.tmps.getD d undef)).run P w = .ok ad w := by rw [hi.get d, h1]; rfl
    simp only [List.mapM_cons, Sem.run_bind, hda, Result.andThen_ok, h2', ih, Sem.run_pure]
  | .tmp _ :: _, [], h => h.elim
  | .cell _ _ :: _, [], h => h.elim
theorem bodyQ.of {fn : Func} {R : Ending → World → Prop} (rs : List ResultVar) (hrs : fn.results.toList = rs) (vs : List Value) (h : ResL P w e rs vs) (hR : R (.returned (pack vs)) w) : bodyQ P fn R .ret e w := by
  intro a hi
  subst hrs
  refine ⟨pack vs, ?_, hR⟩
  have hm := run_results hi _ _ h
  unfold results
  simp only [Array.mapM_eq_mapM_toList, Sem.run_bind, Sem.run_map]
  erw [hm]
  simp only [Result.andThen_ok, Sem.run_pure]
  cases vs with
  | nil => rfl
  | cons v r => cases r with
    | nil => simp [pack]
    | cons u r => simp [pack]
theorem bodyQ.ofN {fn : Func} {R : Ending → World → Prop} (h : bodyQ P fn R .ret e w) : bodyQ P fn R .normal e w := h

theorem toMk {e : Env} {live : List Nat} {vs : List Value} (h : live.map e = vs) : ∃ base, e = mk base live vs := ⟨e, (mk_self h).symm⟩
end

/-- A slice that is read: its cells, and that it has memory if it is not empty. -/
structure SlR (w : World) (a : Option Addr) (n : Nat) (xs : List Value) : Prop where
  rd : Rd w a xs
  some : 0 < n → a.isSome = true
theorem SlR.fram {w w' : World} {a : Option Addr} {n : Nat} {xs : List Value} (h : SlR w a n xs) (hf : Fram Non w w') : SlR w' a n xs := ⟨h.rd.fram hf, h.some⟩
theorem SlR.at {w0 w : World} {L : List Res} {a : Option Addr} {n : Nat} {xs : List Value} (h : SlR w0 a n xs) (hp : Hp w0 Non L w) : SlR w a n xs := h.fram hp.fr
theorem SlR.own {w : World} {e : TypeId} {size n c : Nat} {a : Option Addr} {xs : List Value} (h : (Res.own e size (.slice a n c) n xs).holds w) : SlR w a n xs :=
  ⟨Rd.own h, fun h0 => by
    rcases h.2 with ⟨hv, _⟩ | ⟨g, cap, cur, hv, _⟩
    · simp at hv; omega
    · simp at hv; rw [hv.1]; rfl⟩
theorem SlR.nil (w : World) (n : Nat) (h : n = 0) : SlR w none n [] := ⟨fun j u hu => by simp at hu, fun h0 => by omega⟩

/-- Loads of a slice's element, or of a part of it. -/
theorem Ld.el1 {P : Program} {w : World} {t : TypeId} {a : Option Addr} {α : Type} {f : α → List Value} {l : List α} (h : Rd w a (l.flatMap f)) (sz : Nat) (hl : ∀ x, (f x).length = sz) {i o : Nat} {x : α} (hx : l[i]? = some x) {v : Value}
    (hv : (isAggB P t, (f x)[o]?) = (some false, some v)) : Ld P w t (((adr a).add (i * sz)).add o) v := by
  simp only [Prod.mk.injEq] at hv
  exact Ld.one hv.1 (h.elem sz hl hx o v hv.2)
theorem Ld.elN {P : Program} {w : World} {t : TypeId} {a : Option Addr} {α : Type} {f : α → List Value} {l : List α} (h : Rd w a (l.flatMap f)) (sz : Nat) (hl : ∀ x, (f x).length = sz) {i o : Nat} {x : α} (hx : l[i]? = some x) {cs : List Value}
    (hv : (isAggB P t, (P.info? t).map (·.size), ((f x).drop o).take cs.length) = (some true, some cs.length, cs)) : Ld P w t (((adr a).add (i * sz)).add o) (.agg cs.toArray) := by
  simp only [Prod.mk.injEq] at hv
  refine Ld.many (by rw [hv.1, hv.2.1]) fun j u hu => ?_
  rw [Addr.add_add]
  refine h.elem sz hl hx (o + j) u ?_
  rw [← hv.2.2, List.getElem?_take] at hu
  split at hu
  · rw [List.getElem?_drop] at hu; exact hu
  · simp at hu
theorem Ld.add0 {P : Program} {w : World} {t : TypeId} {a : Addr} {v : Value} (h : Ld P w t (a.add 0) v) : Ld P w t a v := by rwa [Addr.add_zero'] at h

theorem SlR.row {w : World} {b n : Nat} {c xs : List Value} {t : TypeId} (h : (Res.row b c t).holds w) (hc : xs = c) : SlR w (Option.some ⟨b, 0, none⟩) n xs :=
  ⟨fun j u hu => by
    subst hc
    show w.cell? ((⟨b, 0, none⟩ : Addr).add j) = Option.some u
    rw [add_mk, Nat.zero_add]; exact cell_row h j u hu, fun _ => rfl⟩
theorem own_slice {w : World} {e : TypeId} {size n : Nat} {v : Value} {xs : List Value} (h : (Res.own e size v n xs).holds w) : ∃ a c, v = .slice a n c := by
  rcases h.2 with ⟨hv, h0⟩ | ⟨g, cap, cur, hv, _⟩
  · exact ⟨none, 0, by rw [hv, h0]⟩
  · exact ⟨_, _, hv⟩
theorem own_nil {w : World} {e : TypeId} {size n c : Nat} {xs : List Value} (h : (Res.own e size (.slice none n c) n xs).holds w) : Value.slice none n c = .slice none 0 0 := by
  rcases h.2 with ⟨hv, _⟩ | ⟨g, cap, cur, hv, _⟩
  · exact hv
  · simp at hv
theorem Bp.beq {a b : Bool} {p q : Prop} (h : Bp a p) (k : Bp b q) : Bp (a == b) (p ↔ q) := by unfold Bp at *; rw [← h, ← k]; cases a <;> cases b <;> simp

end Go.Proofs.YtbpedjefoajegaaDoor.K
