/- Rules for operations that make or write memory, and for calls. -/
import Derived.Test.YtbpedjefoajegaaDoorCoreH
import Derived.Laws.MakeOwn
namespace Go.Proofs.YtbpedjefoajegaaDoor.K
open Go Go.RowKit

section
variable {P : Program} {N : Nat} {ops : Array Oper} {Q : Post} {next : Env → World → Prop} {e : Env} {w w0 : World} {M : Nat → Prop} {L : List Res} {ty : TypeId} {pos : String} {af : Array Edge} {d : Nat}

theorem OPS.nil (h : Q .normal e w) : OPS P N ops Q [] e w := h
theorem OPS.cons {o : Oper} {r : List Oper} (h : opStep P N ops Q o (OPS P N ops Q r) e w) : OPS P N ops Q (o :: r) e w := h

/-- The zero value of a type, as cells. -/
def zeroC (P : Program) (t : TypeId) : Option (List Value) := ((P.info? t).bind (·.zero)).map fun z => z.cells.toList

theorem opStep.alloc {T : TypeId} (hp : Hp w0 M L w) (c : List Value) (hz : zeroC P T = some c)
    (h : ∀ b w', Hp w0 M (Res.row b c T :: L) w' → next (upd e d (.pointer (some ⟨b, 0, none⟩))) w') :
    opStep P N ops Q ⟨some d, .alloc T, ty, pos, af, none⟩ next e w := by
  unfold zeroC at hz
  cases hi : P.info? T with
  | none => simp [hi] at hz
  | some i =>
    cases hzz : i.zero with
    | none => simp [hi, hzz] at hz
    | some z =>
      simp [hi, hzz] at hz
      have hz' : (zeroValue T).run P w = .ok z w := by simp [zeroValue, typeInfo, hi, hzz]
      refine opStep.val (v := .pointer (some ⟨w.heap.size, 0, none⟩)) (w' := w.alloc (.cells c.toArray T (0, 0))) rfl ?_ (h _ _ (hp.alloc _))
      simp [execOp, Instr.alloc, hz', newVar, newRow, ← hz]

theorem opStep.box {T : TypeId} {x : Operand} (hp : Hp w0 M L w) (c : List Value) (hc : (ev e x).cells.toList = c)
    (h : ∀ b w', Hp w0 M (Res.row b c T :: L) w' → next (upd e d (.pointer (some ⟨b, 0, none⟩))) w') :
    opStep P N ops Q ⟨some d, .box T x, ty, pos, af, none⟩ next e w := by
  refine opStep.val (v := .pointer (some ⟨w.heap.size, 0, none⟩)) (w' := w.alloc (.cells c.toArray T (0, 0))) rfl ?_ (h _ _ (hp.alloc _))
  simp [execOp, Instr.box, newVar, newRow, ← hc]

/-- Cells written over. -/
def ow (c : List Value) (o : Nat) (vs : List Value) : List Value := c.take o ++ vs ++ c.drop (o + vs.length)

theorem run_storeCells_at (g : Nat) (t : TypeId) (o : Nat) : ∀ (vs : List Value) (i : Nat) (cur : List Value) (w : World), w.heap[g]? = some (.cells cur.toArray t (0, 0)) → o + i + vs.length ≤ cur.length → (∀ v ∈ vs, v.oneCell' = true) →
    (storeCells ⟨g, o, none⟩ vs i).run P w = .ok () (w.setRow g (ow cur (o + i) vs).toArray)
  | [], i, cur, w, hg, hl, _ => by
    have hs : w.setRow g (ow cur (o + i) []).toArray = w := by
      have : ow cur (o + i) [] = cur := by simp [ow]
      rw [this]
      have hlt : g < w.heap.size := (Array.getElem?_eq_some_iff.1 hg).1
      have hv : w.heap[g] = .cells cur.toArray t (0, 0) := (Array.getElem?_eq_some_iff.1 hg).2
      have hh : (w.setRow g cur.toArray).heap = w.heap := by
        unfold World.setRow
        apply Array.ext
        · simp
        · intro k h1 h2
          simp only [Array.getElem_modify]
          split
          · rename_i hk; subst hk; simp [hv]
          · rfl
      show { w with heap := (w.setRow g cur.toArray).heap } = w
      rw [hh]
    simp only [storeCells, Sem.run_pure, hs]
  | v :: rest, i, cur, w, hg, hl, h1 => by
    have hadd : (⟨g, o, none⟩ : Addr).add i = ⟨g, o + i, none⟩ := add_mk g o i
    have hlt : o + i < cur.length := by simp at hl; omega
    have hcell : w.cell? ⟨g, o + i, none⟩ = some cur[o + i] := by simp [World.cell?, hg, List.getElem?_eq_getElem hlt]
    have hfz : w.frozen? ⟨g, o + i, none⟩ = false := by simp [World.frozen?, hg]
    have hrow := setCell_eq_setRow w g (o + i) cur.toArray t (0, 0) v hg
    have hset : cur.toArray.setIfInBounds (o + i) v = (cur.set (o + i) v).toArray := by simp
    have hnew := setRow_heap w g cur.toArray (cur.set (o + i) v).toArray t (0, 0) hg
    have ih := run_storeCells_at g t o rest (i + 1) (cur.set (o + i) v) (w.setRow g (cur.set (o + i) v).toArray) hnew (by simp at hl ⊢; omega) (fun u hu => h1 u (by simp [hu]))
    simp only [storeCells, Sem.run_bind, hadd, run_store P w _ v .plain (h1 v (by simp)), hcell, hfz, Bool.false_eq_true, if_false, Result.andThen_ok, hrow, hset, ih, setRow_setRow]
    congr 3
    simp only [ow]
    rw [List.take_set, List.drop_set]
    have e1 : (cur.take (o + (i + 1))).set (o + i) v = cur.take (o + i) ++ [v] := by
      have hlen : (cur.take (o + i)).length = o + i := by rw [List.length_take]; omega
      rw [show o + (i + 1) = (o + i) + 1 from rfl, List.take_succ_eq_append_getElem hlt, List.set_append_right _ _ (by omega), hlen, Nat.sub_self]
      rfl
    have e2 : o + i < o + (i + 1) + rest.length := by omega
    rw [if_pos e2, e1]
    simp [List.length_cons, show o + i + (rest.length + 1) = o + (i + 1) + rest.length from by omega]

theorem setRow_fram (w : World) (g : Nat) (cs : Array Value) : Fram (fun k => k = g) w (w.setRow g cs) :=
  ⟨rfl, rfl, rfl, by simp, fun k _ hk => setRow_other w g k cs hk⟩

/-- A store into a row that is known whole. -/
theorem opStep.store {T t : TypeId} {x y : Operand} {b o : Nat} {c : List Value} {A B : List Res} (hp : Hp w0 M (A ++ Res.row b c t :: B) w) (hx : ev e x = .pointer (some ⟨b, o, none⟩)) (vs c' : List Value)
    (hc : ((ev e y).cells.toList, (P.info? T).map (·.size), decide (o + vs.length ≤ c.length), ow c o vs, vs.all (·.oneCell')) = (vs, some vs.length, true, c', true))
    (h : ∀ w', Hp w0 M (A ++ Res.row b c' t :: B) w' → next e w') :
    opStep P N ops Q ⟨none, .store T x y, ty, pos, af, none⟩ next e w := by
  simp only [Prod.mk.injEq] at hc
  obtain ⟨hv, hsz, hle, how, h1⟩ := hc
  cases hi : P.info? T with
  | none => simp [hi] at hsz
  | some i =>
    simp [hi] at hsz
    have hg : w.heap[b]? = some (.cells c.toArray t (0, 0)) := hp.get
    have hlt : b < w.heap.size := (Array.getElem?_eq_some_iff.1 hg).1
    have hrun := run_storeCells_at (P := P) b t o vs 0 c w hg (by simpa using of_decide_eq_true hle) (fun v hv => List.all_eq_true.1 h1 v hv)
    rw [Nat.add_zero, how] at hrun
    refine opStep.skip (w' := w.setRow b c'.toArray) rfl ?_ (h _ ?_)
    · have hs2 : (ev e y).cells.size = i.size := by rw [hsz, ← hv]; simp
      simp [execOp, Instr.storeAt, Instr.sureAddr, hx, storeVar, sizeOf, typeInfo, hi, hs2, hv, hrun]
    · refine hp.mod (setRow_fram w b _) (Res.row b c' t) (setRow_heap w b _ _ t _ hg) fun k hk => ⟨?_, .inl hk⟩
      have : k = b := hk
      subst this; simpa using hlt

/-- A slice that is written out. -/
def builtSlice (P : Program) (t : TypeId) (len : Nat) (parts : List (Nat × Value)) : Option (TypeId × List Value) :=
  match P.underlying t with
  | some (.slice el) => match P.info? el with
    | some i => match i.zero with
      | some z => if len * i.size > 2 ^ 24 || len * i.size = 0 then none else
        (Instr.fill (fun j => some (j * i.size, i.size)) ((Array.range (len * i.size)).map (z.cells[· % z.cells.size]!)) parts).map fun cs => (el, cs.toList)
      | none => none
    | none => none
  | _ => none
theorem opStep.buildSlice {T E : TypeId} {len : Nat} {parts : Array (Nat × Operand)} (hp : Hp w0 M L w) (c : List Value) (hc : builtSlice P T len (parts.toList.map fun x => (x.1, ev e x.2)) = some (E, c))
    (h : ∀ b w', Hp w0 M (Res.row b c E :: L) w' → next (upd e d (.slice (some ⟨b, 0, none⟩) len len)) w') :
    opStep P N ops Q ⟨some d, .buildSlice T len parts, ty, pos, af, none⟩ next e w := by
  unfold builtSlice at hc
  split at hc
  · rename_i el hu
    split at hc
    · rename_i i hi
      split at hc
      · rename_i z hz
        split at hc
        · simp at hc
        · rename_i hsz
          simp at hsz hc
          obtain ⟨cs, hcs, rfl, rfl⟩ := hc
          have hz' : (zeroValue el).run P w = .ok z w := by simp [zeroValue, typeInfo, hi, hz]
          refine opStep.val (v := .slice (some ⟨w.heap.size, 0, none⟩) len len) (w' := w.alloc (.cells cs.toList.toArray el (0, 0))) rfl ?_ (h _ _ (hp.alloc _))
          have hpm : (parts.map fun (x : Nat × Operand) => (x.1, ev e x.2)).toList = parts.toList.map fun x => (x.1, ev e x.2) := by simp
          have h0 : ¬ (len * i.size = 0) := by have := hsz.2; intro hh; exact (by simp_all)
          have h24 : ¬ (len * i.size > 2 ^ 24) := by omega
          unfold execOp
          simp only [Instr.buildSlice, Sem.run_bind, run_underlying hu, Result.andThen_ok, sizeOf, typeInfo, run_program, hi, Sem.run_pure, if_neg h0, if_neg h24, hz', hpm, hcs, newRow, run_newObj]
          simp
      · simp at hc
    · simp at hc
  · simp at hc

/-- A map that is made. -/
theorem opStep.makeMap {T : TypeId} (hp : Hp w0 M L w)
    (h : ∀ b w', Hp w0 M (Res.obj b (.map #[] 0) :: L) w' → next (upd e d (.map (some b))) w') :
    opStep P N ops Q ⟨some d, .makeMap T none, ty, pos, af, none⟩ next e w := by
  refine opStep.val (v := .map (some w.heap.size)) (w' := w.alloc (.map #[] 0)) rfl ?_ (h _ _ (hp.alloc _))
  simp [execOp, Instr.makeMap]

/-- A call of a Go function by its number. -/
theorem callFunc_enter {P : Program} {w : World} {f : FuncId} {fn : Func} {args : Array Value} (hf : P.funcs[f]? = some fn) (hb : fn.body.isNone = false) (hn : (fn.name == "runtime.NumGoroutine") = false) :
    (callFunc f args).run P w = .ok (.enter f args) w := by
  simp only [callFunc, Sem.run_bind, run_program, Result.andThen_ok, hf, hn, hb, Bool.false_eq_true, if_false, Sem.run_pure]
def callOk (P : Program) (f : FuncId) : Bool := match P.funcs[f]? with
  | some fn => !fn.body.isNone && !(fn.name == "runtime.NumGoroutine")
  | none => false
theorem opStep.call {f : FuncId} {args : Array Operand} {ts : Array TypeId} {R : Ending → World → Prop} (dst : Option Tmp) (vs : List Value) (hok : (callOk P f, args.toList.map (ev e)) = (true, vs)) (hc : Calls P f vs.toArray w R)
    (h : ∀ x w', R x w' → ∃ v, x = .returned v ∧ next (put e dst v) w') :
    opStep P N ops Q ⟨dst, .call ⟨.value (.func f), args, ts⟩, ty, pos, af, none⟩ next e w := by
  simp only [Prod.mk.injEq] at hok
  obtain ⟨hok, hvs⟩ := hok
  unfold callOk at hok
  split at hok
  · rename_i fn hf
    simp at hok
    refine opStep.enter (w' := w) (f := f) (args := vs.toArray) rfl ?_ hc h
    have hm : args.map (ev e) = vs.toArray := by rw [← hvs]; apply Array.ext'; simp
    have hce := callFunc_enter (P := P) (w := w) (args := vs.toArray) hf (by simpa using hok.1) (by simpa using hok.2)
    simp [execOp, resolve, ev, Deferred.ofValue, hm, invoke, hce]
  · simp at hok
/-- A call of a function value: 'func f' with what it has captured. -/
theorem opStep.callV {f : FuncId} {x : Operand} {cap : Array Value} {args : Array Operand} {ts : Array TypeId} {R : Ending → World → Prop} (dst : Option Tmp) (vs : List Value) (hx : ev e x = .func (.func f) #[] cap)
    (hok : (callOk P f, args.toList.map (ev e) ++ cap.toList) = (true, vs)) (hc : Calls P f vs.toArray w R)
    (h : ∀ x w', R x w' → ∃ v, x = .returned v ∧ next (put e dst v) w') :
    opStep P N ops Q ⟨dst, .call ⟨.value x, args, ts⟩, ty, pos, af, none⟩ next e w := by
  simp only [Prod.mk.injEq] at hok
  obtain ⟨hok, hvs⟩ := hok
  unfold callOk at hok
  split at hok
  · rename_i fn hf
    simp at hok
    refine opStep.enter (w' := w) (f := f) (args := vs.toArray) rfl ?_ hc h
    have hm : args.map (ev e) ++ cap = vs.toArray := by rw [← hvs]; apply Array.ext'; simp
    have hce := callFunc_enter (P := P) (w := w) (args := vs.toArray) hf (by simpa using hok.1) (by simpa using hok.2)
    simp only [execOp, resolve, hx, Deferred.ofValue, Sem.run_bind]
    simp [invoke, hm, hce]
  · simp at hok

def appInfo (P : Program) (T : TypeId) : Option (TypeId × Nat × Nat) := match P.underlying T with
  | some (.slice el) => match P.info? el with
    | some i => match i.zero with
      | some z => if z.cells.size = i.size then some (el, i.size, i.bytes) else none
      | none => none
    | none => none
  | _ => none
theorem appInfo_spec {P : Program} {T E : TypeId} {sz bytes : Nat} (h : appInfo P T = some (E, sz, bytes)) :
    ∃ i z, P.underlying T = some (.slice E) ∧ P.info? E = some i ∧ i.zero = some z ∧ i.size = sz ∧ i.bytes = bytes ∧ z.cells.size = sz := by
  unfold appInfo at h
  split at h
  · rename_i el hu
    split at h
    · rename_i i hi
      split at h
      · rename_i z hz
        split at h
        · rename_i hs
          simp at h
          obtain ⟨rfl, rfl, rfl⟩ := h
          exact ⟨i, z, hu, hi, hz, rfl, rfl, hs⟩
        · simp at h
      · simp at h
    · simp at h
  · simp at h

/-- append of a row's cells onto a slice of the call's own. -/
theorem opStep.append {T E ty2 : TypeId} {s x : Operand} {A B : List Res} {sz n m c : Nat} {v : Value} {xs news : List Value} {ad : Addr} (hp : Hp w0 M (A ++ Res.own E sz v n xs :: B) w)
    (bytes : Nat) (hT : appInfo P T = some (E, sz, bytes))
    (hs : ev e s = v) (hx : ev e x = .slice (some ad) m c) (hl : news.length = m * sz) (hnews : ∀ j u, news[j]? = some u → w.cell? (ad.add j) = some u) (h1 : ∀ u ∈ news, u.oneCell' = true) (hsz : 0 < sz)
    (hb : (n + m) * bytes ≤ 140737488355328) (h63 : n + m ≤ 9223372036854775807)
    (h : ∀ v' w', Hp w0 M (A ++ Res.own E sz v' (n + m) (xs ++ news) :: B) w' → (v' = .slice none 0 0 ↔ v = .slice none 0 0 ∧ m = 0) → next (upd e d v') w') :
    opStep P N ops Q ⟨some d, .call ⟨.builtin .append, #[s, x], #[T, T]⟩, ty2, pos, af, none⟩ next e w := by
  obtain ⟨i, z, hu, hi, hz, rfl, rfl, hzs⟩ := appInfo_spec hT
  obtain ⟨v', w', hrun, hown, hgrow, hnil, hat⟩ := run_append_own_at (P := P) w 0 T ty2 E i z i.size i.bytes hu hi hz rfl rfl hzs hsz v n xs hp.get ad m c news hl hnews h1 h63 hb (Nat.zero_le _)
  refine opStep.val (v := v') (w' := w') rfl ?_ (h v' w' ?_ hnil)
  · simp [execOp, resolve, invoke, builtin, hs, hx, hrun]
  · refine hp.mod (r' := Res.own E i.size v' (n + m) (xs ++ news)) (Fram.of_grown hgrow) hown fun b hb => ?_
    have hb' : v'.ownBlock = some b := hb
    refine ⟨(hown.lt b hb').2, ?_⟩
    rcases hat with h2 | h2
    · left
      show v.ownBlock = some b
      rw [← h2]; exact hb'
    · right
      rw [h2] at hb'
      have : w.heap.size = b := by simpa using hb'
      omega
end

end Go.Proofs.YtbpedjefoajegaaDoor.K
