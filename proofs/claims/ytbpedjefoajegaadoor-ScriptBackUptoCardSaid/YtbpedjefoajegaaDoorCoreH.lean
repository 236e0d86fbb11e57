/- Memory: resources that are apart, and what was there before. -/
import Derived.Test.YtbpedjefoajegaaDoorCoreE
import Derived.Maps.AppendAt
import Derived.Below
import Derived.Laws.Tables
namespace Go.Proofs.YtbpedjefoajegaaDoor.K
open Go Go.RowKit

/-- w' is w but for the blocks in M and new ones. -/
structure Fram (M : Nat → Prop) (w w' : World) : Prop where
  os : w'.os = w.os
  tape : w'.tape = w.tape
  output : w'.output = w.output
  size : w.heap.size ≤ w'.heap.size
  block : ∀ k, k < w.heap.size → ¬ M k → w'.heap[k]? = w.heap[k]?
def Non : Nat → Prop := fun _ => False

theorem Fram.refl (M : Nat → Prop) (w : World) : Fram M w w := ⟨rfl, rfl, rfl, Nat.le_refl _, fun _ _ _ => rfl⟩
theorem Fram.trans {M : Nat → Prop} {a b c : World} (h : Fram M a b) (k : Fram M b c) : Fram M a c :=
  ⟨k.os.trans h.os, k.tape.trans h.tape, k.output.trans h.output, Nat.le_trans h.size k.size, fun i hi hm => (k.block i (Nat.lt_of_lt_of_le hi h.size) hm).trans (h.block i hi hm)⟩
theorem Fram.mono {M M' : Nat → Prop} {w w' : World} (h : Fram M w w') (hm : ∀ k, k < w.heap.size → M k → M' k) : Fram M' w w' :=
  ⟨h.os, h.tape, h.output, h.size, fun k hk hn => h.block k hk (fun hM => hn (hm k hk hM))⟩
theorem Fram.below {w w' : World} (h : Fram Non w w') : Below w.heap.size w w' :=
  ⟨h.os, h.tape, h.output, h.size, fun k hk => h.block k hk id⟩
theorem Fram.of_below {w w' : World} (h : Below w.heap.size w w') : Fram Non w w' := ⟨h.os, h.tape, h.output, h.size, fun k hk _ => h.block k hk⟩
theorem Fram.of_grown {w w' : World} {row : Option Nat} (h : w.grownBy w' row) : Fram (fun k => row = some k) w w' :=
  ⟨h.os, h.tape, h.output, h.size, fun k hk hm => h.block k hk (fun e => hm e.symm)⟩
theorem Fram.drew (M : Nat → Prop) (w : World) : Fram M w w.drew := ⟨rfl, rfl, rfl, Nat.le_refl _, fun _ _ _ => rfl⟩
theorem Fram.alloc (M : Nat → Prop) (w : World) (o : Obj) : Fram M w (w.alloc o) := ⟨rfl, rfl, rfl, by simp, fun k hk _ => Below.heap_alloc w o k hk⟩

/-- A thing in memory: the blocks that it stands in, and what is said of them. -/
structure Res where
  foot : Nat → Prop
  holds : World → Prop
  stable : ∀ {w w' : World}, (∀ b, foot b → w'.heap[b]? = w.heap[b]?) → holds w → holds w'

def Res.obj (b : Nat) (o : Obj) : Res := ⟨fun k => k = b, fun w => w.heap[b]? = some o, fun h hw => (h _ rfl).trans hw⟩
abbrev Res.row (b : Nat) (c : List Value) (t : TypeId) : Res := Res.obj b (.cells c.toArray t (0, 0))
def Res.own (e : TypeId) (size : Nat) (v : Value) (n : Nat) (xs : List Value) : Res :=
  ⟨fun k => v.ownBlock = some k, fun w => w.ownsRow 0 e size v n xs, by
    rintro w w' h ⟨h1, h2⟩
    refine ⟨h1, ?_⟩
    rcases h2 with h2 | ⟨g, cap, cur, hv, hg, hh, r⟩
    · exact .inl h2
    · exact .inr ⟨g, cap, cur, hv, hg, by rw [h g (by rw [hv]; rfl)]; exact hh, r⟩⟩
/-- Something that stands in blocks of an interval. -/
def Res.ival (lo hi : Nat) (A : World → Prop) (hA : ∀ {w w' : World}, (∀ b, lo ≤ b ∧ b < hi → w'.heap[b]? = w.heap[b]?) → A w → A w') : Res := ⟨fun k => lo ≤ k ∧ k < hi, A, hA⟩

/-- The state of a call that began in w0 and may write M: its things, each apart from the others, all new or in M. -/
structure Hp (w0 : World) (M : Nat → Prop) (L : List Res) (w : World) : Prop where
  fr : Fram M w0 w
  holds : ∀ r ∈ L, r.holds w
  range : ∀ r ∈ L, ∀ b, r.foot b → b < w.heap.size ∧ (w0.heap.size ≤ b ∨ M b)
  apart : L.Pairwise fun r s => ∀ b, r.foot b → ¬ s.foot b

section
variable {w0 w w' : World} {M : Nat → Prop} {L : List Res}

theorem Hp.init (w : World) : Hp w Non [] w := ⟨Fram.refl _ _, by simp, by simp, List.Pairwise.nil⟩
theorem Hp.init1 {r : Res} (h : r.holds w) (hf : ∀ b, r.foot b → b < w.heap.size) : Hp w r.foot [r] w :=
  ⟨Fram.refl _ _, by simpa using h, fun s hs b hb => by simp at hs; subst hs; exact ⟨hf b hb, .inr hb⟩, by simp⟩
theorem Hp.below (h : Hp w0 Non L w) : Below w0.heap.size w0 w := h.fr.below
theorem Hp.sub {L' : List Res} (h : Hp w0 M L w) (hs : L'.Sublist L) : Hp w0 M L' w :=
  ⟨h.fr, fun r hr => h.holds r (hs.subset hr), fun r hr => h.range r (hs.subset hr), h.apart.sublist hs⟩
theorem Hp.nil (h : Hp w0 M L w) : Hp w0 M [] w := h.sub (List.nil_sublist _)
/-- A step that writes nothing that stands. -/
theorem Hp.step (h : Hp w0 M L w) (hf : Fram Non w w') : Hp w0 M L w' := by
  refine ⟨h.fr.trans (hf.mono fun k hk hm => hm.elim), fun r hr => r.stable (fun b hb => hf.block b (h.range r hr b hb).1 id) (h.holds r hr), fun r hr b hb => ?_, h.apart⟩
  obtain ⟨h1, h2⟩ := h.range r hr b hb
  exact ⟨Nat.lt_of_lt_of_le h1 hf.size, h2⟩
theorem Hp.drew (h : Hp w0 M L w) : Hp w0 M L w.drew := h.step (Fram.drew _ _)
/-- A step that makes something new. -/
theorem Hp.new (h : Hp w0 M L w) (hf : Fram Non w w') (r : Res) (hr : r.holds w') (hn : ∀ b, r.foot b → w.heap.size ≤ b ∧ b < w'.heap.size) : Hp w0 M (r :: L) w' := by
  have h' := h.step hf
  refine ⟨h'.fr, ?_, ?_, ?_⟩
  · intro s hs
    rcases List.mem_cons.1 hs with rfl | hs
    · exact hr
    · exact h'.holds s hs
  · intro s hs b hb
    rcases List.mem_cons.1 hs with rfl | hs
    · obtain ⟨h1, h2⟩ := hn b hb
      exact ⟨h2, .inl (Nat.le_trans h.fr.size h1)⟩
    · exact h'.range s hs b hb
  · refine List.Pairwise.cons ?_ h.apart
    intro s hs b hb hb'
    have := (h.range s hs b hb').1
    have := (hn b hb).1
    omega
/-- A step that turns one thing into another: what it writes is that thing's, or new. -/
theorem Hp.mod {A B : List Res} {r : Res} (h : Hp w0 M (A ++ r :: B) w) (hf : Fram r.foot w w') (r' : Res) (hr : r'.holds w') (hn : ∀ b, r'.foot b → b < w'.heap.size ∧ (r.foot b ∨ w.heap.size ≤ b)) :
    Hp w0 M (A ++ r' :: B) w' := by
  have hap := h.apart
  rw [List.pairwise_append, List.pairwise_cons] at hap
  obtain ⟨hA, ⟨hrB, hB⟩, hAB⟩ := hap
  have hmr : r ∈ A ++ r :: B := by simp
  have hother : ∀ s ∈ A ++ r :: B, (∀ b, s.foot b → ¬ r.foot b) → s.holds w' := fun s hs hne =>
    s.stable (fun b hb => hf.block b (h.range s hs b hb).1 (hne b hb)) (h.holds s hs)
  refine ⟨?_, ?_, ?_, ?_⟩
  · refine ⟨hf.os.trans h.fr.os, hf.tape.trans h.fr.tape, hf.output.trans h.fr.output, Nat.le_trans h.fr.size hf.size, fun k hk hm => ?_⟩
    have hlt := Nat.lt_of_lt_of_le hk h.fr.size
    refine (hf.block k hlt ?_).trans (h.fr.block k hk hm)
    intro hfk
    rcases (h.range r hmr k hfk).2 with h1 | h1
    · omega
    · exact hm h1
  · intro s hs
    simp at hs
    rcases hs with hs | rfl | hs
    · exact hother s (by simp [hs]) (fun b hb hb' => hAB s hs r (by simp) b hb hb')
    · exact hr
    · exact hother s (by simp [hs]) (fun b hb hb' => hrB s hs b hb' hb)
  · intro s hs b hb
    simp at hs
    rcases hs with hs | rfl | hs
    · have := h.range s (by simp [hs]) b hb
      exact ⟨Nat.lt_of_lt_of_le this.1 hf.size, this.2⟩
    · obtain ⟨h1, h2⟩ := hn b hb
      refine ⟨h1, ?_⟩
      rcases h2 with h2 | h2
      · exact (h.range r hmr b h2).2
      · exact .inl (Nat.le_trans h.fr.size h2)
    · have := h.range s (by simp [hs]) b hb
      exact ⟨Nat.lt_of_lt_of_le this.1 hf.size, this.2⟩
  · rw [List.pairwise_append, List.pairwise_cons]
    refine ⟨hA, ⟨?_, hB⟩, ?_⟩
    · intro s hs b hb hb'
      have hlt := (h.range s (by simp [hs]) b hb').1
      rcases (hn b hb).2 with h2 | h2
      · exact hrB s hs b h2 hb'
      · omega
    · intro s hs t ht b hb hb'
      rcases List.mem_cons.1 ht with rfl | ht
      · have hlt := (h.range s (by simp [hs]) b hb).1
        rcases (hn b hb').2 with h2 | h2
        · exact hAB s hs r (by simp) b hb h2
        · omega
      · exact hAB s hs t (by simp [ht]) b hb hb'
/-- The same memory, told otherwise. -/
theorem Hp.turn {A B : List Res} {r : Res} (h : Hp w0 M (A ++ r :: B) w) (r' : Res) (hr : r.holds w → r'.holds w) (hn : ∀ b, r'.foot b → r.foot b) : Hp w0 M (A ++ r' :: B) w :=
  h.mod (Fram.refl _ _) r' (hr (h.holds r (by simp))) fun b hb => ⟨(h.range r (by simp) b (hn b hb)).1, .inl (hn b hb)⟩
theorem Hp.get {A B : List Res} {r : Res} (h : Hp w0 M (A ++ r :: B) w) : r.holds w := h.holds r (by simp)
theorem Hp.lt {A B : List Res} {r : Res} (h : Hp w0 M (A ++ r :: B) w) (b : Nat) (hb : r.foot b) : b < w.heap.size := (h.range r (by simp) b hb).1
theorem Hp.ge {A B : List Res} {r : Res} (h : Hp w0 Non (A ++ r :: B) w) (b : Nat) (hb : r.foot b) : w0.heap.size ≤ b := by
  rcases (h.range r (by simp) b hb).2 with h1 | h1
  · exact h1
  · exact h1.elim
/-- The call's own part of memory for a callee that may write one thing. -/
theorem Hp.alloc (h : Hp w0 M L w) (o : Obj) : Hp w0 M (Res.obj w.heap.size o :: L) (w.alloc o) :=
  h.new (Fram.alloc _ _ _) _ (heap_alloc_new w o) fun b hb => by
    have : b = w.heap.size := hb
    subst this; simp
end

/-! ### reading -/
/-- The cells xs lie from a on. -/
def Rd (w : World) (a : Option Addr) (xs : List Value) : Prop := ∀ j u, xs[j]? = some u → w.cell? ((adr a).add j) = some u
def Rd.blk (a : Option Addr) : Nat := (adr a).block

theorem Rd.keep {w w' : World} {a : Option Addr} {xs : List Value} (h : Rd w a xs) (hb : (adr a).block < w.heap.size → w'.heap[(adr a).block]? = w.heap[(adr a).block]?) : Rd w' a xs := by
  intro j u hu
  have h1 := h j u hu
  have hblk : ((adr a).add j).block = (adr a).block := by unfold Addr.add; split <;> rfl
  have hlt : (adr a).block < w.heap.size := by
    rw [← hblk]
    unfold World.cell? at h1
    split at h1
    · rename_i heq
      exact (Array.getElem?_eq_some_iff.1 heq).1
    · simp at h1
  rw [show w'.cell? ((adr a).add j) = w.cell? ((adr a).add j) from World.cell?_of_block (by rw [hblk]; exact hb hlt)]
  exact h1
theorem Rd.fram {w w' : World} {a : Option Addr} {xs : List Value} (h : Rd w a xs) (hf : Fram Non w w') : Rd w' a xs := h.keep fun hlt => hf.block _ hlt id
theorem Rd.at {w0 w : World} {L : List Res} {a : Option Addr} {xs : List Value} (h : Rd w0 a xs) (hp : Hp w0 Non L w) : Rd w a xs := h.fram hp.fr
theorem Rd.own {w : World} {e : TypeId} {size n c : Nat} {a : Option Addr} {xs : List Value} (h : (Res.own e size (.slice a n c) n xs).holds w) : Rd w a xs := by
  intro j u hu
  rcases h.2 with ⟨h0, _⟩ | ⟨g, cap, cur, hv, hg, hh, r⟩
  · simp at h0
    have : xs = [] := List.eq_nil_of_length_eq_zero (by have := h.1; rw [h0.2.1] at this; simpa using this)
    subst this; simp at hu
  · simp at hv
    obtain ⟨rfl, _⟩ := hv
    exact World.ownsRow.cells (v := .slice (some ⟨g, 0, none⟩) n c) h rfl j u hu

theorem Addr.add_add (a : Addr) (i j : Nat) : (a.add i).add j = a.add (i + j) := by
  unfold Addr.add
  by_cases hi : i = 0 <;> by_cases hj : j = 0 <;> simp [hi, hj, Nat.add_assoc]

/-- A variable of one cell. -/
theorem Ld.cell {P : Program} {w : World} {t : TypeId} {a : Addr} {v : Value} {d : TypeDesc} (hd : P.underlying t = some d) (hn : (match d with | .struct _ | .array _ _ => false | _ => true) = true) (h : w.cell? a = some v) : Ld P w t a v := by
  unfold Ld loadVar isAgg
  cases d <;> simp at hn <;> simp [run_underlying hd, h]
/-- A variable of several cells. -/
theorem Ld.agg {P : Program} {w : World} {t : TypeId} {a : Addr} {cs : List Value} {d : TypeDesc} {i : TypeInfo} (hd : P.underlying t = some d) (hn : (match d with | .struct _ | .array _ _ => true | _ => false) = true)
    (hi : P.info? t = some i) (hl : cs.length = i.size) (h : ∀ j u, cs[j]? = some u → w.cell? (a.add j) = some u) : Ld P w t a (.agg cs.toArray) := by
  unfold Ld loadVar isAgg
  have hc := run_loadCells_list (P := P) w a cs h
  rw [hl] at hc
  cases d <;> simp at hn <;> simp [run_underlying hd, sizeOf, typeInfo, hi, hc]

def isAggB (P : Program) (t : TypeId) : Option Bool := match P.underlying t with
  | some (.struct _) | some (.array _ _) => some true
  | some _ => some false
  | none => none
theorem Ld.one {P : Program} {w : World} {t : TypeId} {a : Addr} {v : Value} (hd : isAggB P t = some false) (h : w.cell? a = some v) : Ld P w t a v := by
  unfold isAggB at hd
  cases hu : P.underlying t with
  | none => simp [hu] at hd
  | some d => cases d <;> simp [hu] at hd <;> exact Ld.cell hu rfl h
theorem Ld.many {P : Program} {w : World} {t : TypeId} {a : Addr} {cs : List Value} (hd : (isAggB P t, (P.info? t).map (·.size)) = (some true, some cs.length))
    (h : ∀ j u, cs[j]? = some u → w.cell? (a.add j) = some u) : Ld P w t a (.agg cs.toArray) := by
  simp only [Prod.mk.injEq] at hd
  obtain ⟨hd, hs⟩ := hd
  cases hi : P.info? t with
  | none => simp [hi] at hs
  | some i =>
    simp [hi] at hs
    unfold isAggB at hd
    cases hu : P.underlying t with
    | none => simp [hu] at hd
    | some d => cases d <;> simp [hu] at hd <;> exact Ld.agg hu rfl hi hs.symm h

theorem cell_row {w : World} {b : Nat} {c : List Value} {t : TypeId} (h : (Res.row b c t).holds w) (j : Nat) (u : Value) (hu : c[j]? = some u) : w.cell? ⟨b, j, none⟩ = some u := by
  have h' : w.heap[b]? = some (.cells c.toArray t (0, 0)) := h
  simp [World.cell?, h', hu]
theorem add_mk (b o j : Nat) : (⟨b, o, none⟩ : Addr).add j = ⟨b, o + j, none⟩ := by unfold Addr.add; split <;> simp_all

/-- A cell, or some, of a row that is known whole. -/
theorem Ld.row1 {P : Program} {w : World} {t T : TypeId} {b o : Nat} {c : List Value} {v : Value} (h : (Res.row b c T).holds w) (hc : (isAggB P t, c[o]?) = (some false, some v)) : Ld P w t ⟨b, o, none⟩ v := by
  simp only [Prod.mk.injEq] at hc
  exact Ld.one hc.1 (cell_row h o v hc.2)
theorem Ld.rowN {P : Program} {w : World} {t T : TypeId} {b o : Nat} {c : List Value} {cs : List Value} (h : (Res.row b c T).holds w) (hc : (isAggB P t, (P.info? t).map (·.size), (c.drop o).take cs.length) = (some true, some cs.length, cs)) :
    Ld P w t ⟨b, o, none⟩ (.agg cs.toArray) := by
  simp only [Prod.mk.injEq] at hc
  refine Ld.many (by rw [hc.1, hc.2.1]) fun j u hu => ?_
  rw [add_mk]
  refine cell_row h _ _ ?_
  rw [← hc.2.2, List.getElem?_take] at hu
  split at hu
  · rw [List.getElem?_drop] at hu; exact hu
  · simp at hu

/-! ### typed rows -/
theorem flat_get {α : Type} {f : α → List Value} {sz : Nat} : ∀ {l : List α} (_ : ∀ x ∈ l, (f x).length = sz) {i : Nat} {x : α}, l[i]? = some x → ∀ {j : Nat} {u : Value}, (f x)[j]? = some u → (l.flatMap f)[i * sz + j]? = some u
  | [], _, i, x, h, _, _, _ => by simp at h
  | y :: l, hl, i, x, h, j, u, hu => by
    have hy : (f y).length = sz := hl y (by simp)
    rw [List.flatMap_cons]
    cases i with
    | zero =>
      simp at h; subst h
      have hj : j < (f y).length := (List.getElem?_eq_some_iff.1 hu).1
      rw [Nat.zero_mul, Nat.zero_add, List.getElem?_append_left hj]; exact hu
    | succ i =>
      simp at h
      rw [List.getElem?_append_right (by rw [hy, Nat.succ_mul]; omega), hy, show (i + 1) * sz + j - sz = i * sz + j from by rw [Nat.succ_mul]; omega]
      exact flat_get (fun z hz => hl z (by simp [hz])) h hu
theorem Rd.elem {α : Type} {f : α → List Value} {w : World} {a : Option Addr} {l : List α} (h : Rd w a (l.flatMap f)) (sz : Nat) (hl : ∀ x, (f x).length = sz) {i : Nat} {x : α} (hx : l[i]? = some x) :
    ∀ j u, (f x)[j]? = some u → w.cell? (((adr a).add (i * sz)).add j) = some u := by
  intro j u hu
  rw [Addr.add_add]
  exact h _ _ (flat_get (fun y _ => hl y) hx hu)

end Go.Proofs.YtbpedjefoajegaaDoor.K
