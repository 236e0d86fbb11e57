/- Stores into slices of a call's own; slices that are made. -/
import Derived.Test.YtbpedjefoajegaaDoorCoreP
import Derived.Laws.OwnMore
namespace Go.Proofs.YtbpedjefoajegaaDoor.K
open Go Go.RowKit

section
variable {P : Program} {N : Nat} {ops : Array Oper} {Q : Post} {next : Env → World → Prop} {e : Env} {w w0 : World} {M : Nat → Prop} {A B L : List Res} {ty : TypeId} {pos : String} {af : Array Edge} {d : Nat}

theorem ow_get {c vs : List Value} {o : Nat} (h : o + vs.length ≤ c.length) (i : Nat) : (ow c o vs)[i]? = if i < o then c[i]? else if i < o + vs.length then vs[i - o]? else c[i]? := by
  unfold ow
  rw [List.append_assoc, List.getElem?_append, List.length_take, Nat.min_eq_left (by omega)]
  split
  · rename_i hi
    rw [List.getElem?_take, if_pos hi]
  · rw [List.getElem?_append]
    split
    · rw [if_pos (by omega)]
    · rw [if_neg (by omega), List.getElem?_drop]
      congr 1
      omega
theorem ow_len {c vs : List Value} {o : Nat} (h : o + vs.length ≤ c.length) : (ow c o vs).length = c.length := by
  unfold ow
  simp only [List.length_append, List.length_take, List.length_drop]
  omega
theorem ow_take {cur vs : List Value} {p m : Nat} (h : p + vs.length ≤ m) (hm : m ≤ cur.length) : (ow cur p vs).take m = ow (cur.take m) p vs := by
  apply List.ext_getElem?
  intro i
  rw [List.getElem?_take, ow_get (by omega), ow_get (by rw [List.length_take]; omega)]
  simp only [List.getElem?_take]
  by_cases h1 : i < m
  · simp only [if_pos h1]
  · rw [if_neg h1, if_neg (by omega), if_neg (by omega)]
    simp [h1]
/-- One thing of a list, written. -/
theorem ow_flat {α : Type} {f : α → List Value} {sz : Nat} (hf : ∀ x, (f x).length = sz) {l : List α} {i : Nat} (hi : i < l.length) (x : α) : ow (l.flatMap f) (i * sz) (f x) = (l.set i x).flatMap f := by
  induction l generalizing i with
  | nil => simp at hi
  | cons y l ih =>
    cases i with
    | zero =>
      simp only [ow, Nat.zero_mul, List.take_zero, List.nil_append, Nat.zero_add, List.flatMap_cons, List.set_cons_zero]
      rw [hf x, ← hf y, List.drop_left]
    | succ i =>
      have hi' : i < l.length := by simpa using hi
      rw [List.set_cons_succ, List.flatMap_cons, List.flatMap_cons, ← ih hi']
      have e : (i + 1) * sz = (f y).length + i * sz := by rw [hf y, Nat.add_mul]; omega
      simp only [ow]
      rw [e, List.take_length_add_append, Nat.add_assoc, List.drop_length_add_append]
      simp only [List.append_assoc]

theorem opStep.storeOwn {T E : TypeId} {x y : Operand} {sz n c : Nat} {a : Option Addr} {xs : List Value} (p : Nat) (hp : Hp w0 M (A ++ Res.own E sz (.slice a n c) n xs :: B) w) (hx : ev e x = .pointer (some ((adr a).add p))) (vs : List Value)
    (hc : ((ev e y).cells.toList, (P.info? T).map (·.size), vs.all (·.oneCell')) = (vs, some vs.length, true)) (h0 : 0 < vs.length) (hb : p + vs.length ≤ n * sz)
    (h : ∀ w', Hp w0 M (A ++ Res.own E sz (.slice a n c) n (ow xs p vs) :: B) w' → next e w') :
    opStep P N ops Q ⟨none, .store T x y, ty, pos, af, none⟩ next e w := by
  simp only [Prod.mk.injEq] at hc
  obtain ⟨hv, hsz, h1⟩ := hc
  have hown : (Res.own E sz (.slice a n c) n xs).holds w := hp.get
  obtain ⟨hl, hh | ⟨g, cap, cur, hs, hg, hh, hn, hcap, hcs, hxs⟩⟩ := hown
  · simp at hh
    obtain ⟨_, rfl⟩ := hh
    omega
  · simp only [Value.slice.injEq] at hs
    obtain ⟨rfl, _, rfl⟩ := hs
    have had : (adr (some (⟨g, 0, none⟩ : Addr))).add p = ⟨g, p, none⟩ := by rw [show adr (some (⟨g, 0, none⟩ : Addr)) = ⟨g, 0, none⟩ from rfl, add_mk, Nat.zero_add]
    rw [had] at hx
    cases hi : P.info? T with
    | none => simp [hi] at hsz
    | some i =>
      simp [hi] at hsz
      have hlt : g < w.heap.size := (Array.getElem?_eq_some_iff.1 hh).1
      have hle : n * sz ≤ c * sz := Nat.mul_le_mul_right _ hn
      have hcl : cur.toList.length = c * sz := by simpa using hcs
      have hrun := run_storeCells_at (P := P) g E p vs 0 cur.toList w (by simpa using hh) (by omega) (fun v hv => List.all_eq_true.1 h1 v hv)
      rw [Nat.add_zero] at hrun
      refine opStep.skip (w' := w.setRow g (ow cur.toList p vs).toArray) rfl ?_ (h _ ?_)
      · have hs2 : (ev e y).cells.size = i.size := by rw [hsz, ← hv]; simp
        simp [execOp, Instr.storeAt, Instr.sureAddr, hx, storeVar, sizeOf, typeInfo, hi, hs2, hv, hrun]
      · refine hp.mod ((setRow_fram w g _).mono fun k _ hk => by subst hk; rfl) (Res.own E sz (.slice (some ⟨g, 0, none⟩) n c) n (ow xs p vs)) ⟨?_, .inr ⟨g, c, (ow cur.toList p vs).toArray, rfl, hg, setRow_heap w g _ _ E _ hh, hn, hcap, ?_, ?_⟩⟩ fun k hk => ⟨?_, .inl hk⟩
        · rw [ow_len (by omega)]; exact hl
        · simp only [List.size_toArray]; rw [ow_len (by omega)]; exact hcl
        · simp only; rw [ow_take hb (by omega), hxs]
        · have : k = g := by have hk' : some g = some k := hk; simpa using hk'.symm
          subst this; simpa using hlt
theorem made_flat {α : Type} {f : α → List Value} {z : Array Value} {sz : Nat} (x : α) (hf : f x = z.toList) (hz : z.size = sz) (h0 : 0 < sz) (n : Nat) : (madeCells z (n * sz)).toList = (List.replicate n x).flatMap f := by
  have hlen : (f x).length = sz := by rw [hf]; simpa using hz
  have hl2 : ((List.replicate n x).flatMap f).length = n * sz := by
    simp [List.length_flatMap, hlen]
  apply List.ext_getElem?
  intro i
  by_cases hi : i < n * sz
  · have hq : i / sz < n := Nat.div_lt_of_lt_mul (by rw [Nat.mul_comm]; exact hi)
    have hr : i % sz < sz := Nat.mod_lt _ h0
    have hx : (List.replicate n x)[i / sz]? = some x := by simp [hq]
    have hu : (f x)[i % sz]? = some (z[i % sz]'(by omega)) := by rw [hf]; simp [hz, hr]
    have h := flat_get (f := f) (sz := sz) (l := List.replicate n x) (fun y hy => by rw [List.eq_of_mem_replicate hy]; exact hlen) hx hu
    rw [show i / sz * sz + i % sz = i from by rw [Nat.mul_comm]; exact Nat.div_add_mod i sz] at h
    rw [h]
    simp [madeCells, hi, hz, hr, getElem!_pos]
  · rw [List.getElem?_eq_none (by simp [madeCells]; omega), List.getElem?_eq_none (by omega)]

def mkInfo (P : Program) (T : TypeId) : Option (TypeId × Nat × Nat × List Value) := match P.underlying T with
  | some (.slice el) => match P.info? el with
    | some i => match i.zero with
      | some z => if z.cells.size = i.size then some (el, i.size, i.bytes, z.cells.toList) else none
      | none => none
    | none => none
  | _ => none
/-- A slice that is made, of zero values. -/
theorem opStep.makeSlice {α : Type} {f : α → List Value} {T E : TypeId} {l c : Operand} {sz bytes n : Nat} (x : α) (hp : Hp w0 M L w) (hT : mkInfo P T = some (E, sz, bytes, f x)) (h0 : 0 < sz)
    (hl : (ev e l, ev e c) = (.int .i64 (n : Int), .int .i64 (n : Int))) (hb : bytes * n ≤ 281474976710656) (h63 : n ≤ maxLen)
    (h : ∀ b w', Hp w0 M (Res.own E sz (.slice (some ⟨b, 0, none⟩) n n) n ((List.replicate n x).flatMap f) :: L) w' → next (upd e d (.slice (some ⟨b, 0, none⟩) n n)) w') :
    opStep P N ops Q ⟨some d, .makeSlice T l c, ty, pos, af, none⟩ next e w := by
  simp only [Prod.mk.injEq] at hl
  unfold mkInfo at hT
  split at hT
  · rename_i el hu
    split at hT
    · rename_i i hi
      split at hT
      · rename_i z hz
        split at hT
        · rename_i hs
          simp at hT
          obtain ⟨rfl, rfl, rfl, hzf⟩ := hT
          obtain ⟨w', hrun, hown, hgrow⟩ := run_make_full (P := P) w 0 T el i z i.size hu hi hz rfl .i64 .i64 n hb h63 (Nat.zero_le _)
          rw [made_flat x hzf.symm hs h0 n] at hown
          refine opStep.val (v := .slice (some ⟨w.heap.size, 0, none⟩) n n) (w' := w') rfl ?_ (h w.heap.size w' ?_)
          · simp [execOp, hl.1, hl.2, hrun]
          · refine hp.new (Fram.of_grown hgrow |>.mono fun k _ hk => by cases hk) _ hown fun b hb => ?_
            have hb' : some w.heap.size = some b := hb
            have := hown.lt b hb
            simp at hb'
            exact ⟨by omega, this.2⟩
        · simp at hT
      · simp at hT
    · simp at hT
  · simp at hT
end
end Go.Proofs.YtbpedjefoajegaaDoor.K
