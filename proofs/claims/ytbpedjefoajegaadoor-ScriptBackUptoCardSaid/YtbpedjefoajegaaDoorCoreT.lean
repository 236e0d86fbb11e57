/- Appending a slice that is read; an empty row as a slice of one's own. -/
import Derived.Test.YtbpedjefoajegaaDoorCoreX
import Derived.Test.YtbpedjefoajegaaDoorCoreR
import Derived.Test.YtbpedjefoajegaaDoorCoreP
import Derived.Test.YtbpedjefoajegaaDoorCoreS
namespace Go.Proofs.YtbpedjefoajegaaDoor.K
open Go Go.RowKit

theorem flat_n {α : Type} {f : α → List Value} {sz m : Nat} {l : List α} (hf : ∀ x, (f x).length = sz) (h : l.length = m) : (l.flatMap f).length = m * sz := by rw [flat_len hf, h]
theorem one_flat {α : Type} {f : α → List Value} {l : List α} (h : ∀ x, (f x).all (·.oneCell') = true) : ∀ u ∈ l.flatMap f, u.oneCell' = true := by
  intro u hu
  obtain ⟨x, _, hx⟩ := List.mem_flatMap.1 hu
  exact List.all_eq_true.1 (h x) u hx
theorem ow_flat_part {α : Type} [Inhabited α] {f : α → List Value} {sz : Nat} (hf : ∀ x, (f x).length = sz) {o : Nat} {vs : List Value} (hb : o + vs.length ≤ sz) {l : List α} {i : Nat} (hi : i < l.length) (x : α) (hx : ow (f l[i]!) o vs = f x) : ow (l.flatMap f) (i * sz + o) vs = (l.set i x).flatMap f := by
  induction l generalizing i with
  | nil => simp at hi
  | cons y l ih =>
    cases i with
    | zero =>
      have hx : ow (f y) o vs = f x := hx
      rw [List.set_cons_zero, List.flatMap_cons, List.flatMap_cons, ← hx, Nat.zero_mul, Nat.zero_add]
      simp only [ow]
      rw [List.take_append_of_le_length (by rw [hf y]; omega), List.drop_append_of_le_length (by rw [hf y]; omega)]
      simp only [List.append_assoc]
    | succ i =>
      have hi' : i < l.length := by simpa using hi
      have hx' : ow (f l[i]!) o vs = f x := by simpa using hx
      rw [List.set_cons_succ, List.flatMap_cons, List.flatMap_cons, ← ih hi' hx']
      have e : (i + 1) * sz + o = (f y).length + (i * sz + o) := by rw [hf y, Nat.add_mul]; omega
      simp only [ow]
      rw [e, List.take_length_add_append, Nat.add_assoc, List.drop_length_add_append]
      simp only [List.append_assoc]
theorem addr_add2 (a : Addr) (m o : Nat) : (a.add m).add o = a.add (m + o) := by unfold Addr.add; by_cases h1 : o = 0 <;> by_cases h2 : m = 0 <;> simp [h1, h2, Nat.add_assoc]
theorem Hp.rowOwn {w w0 : World} {M : Nat → Prop} {L : List Res} {b E : Nat} (sz : Nat) (h : Hp w0 M (Res.row b [] E :: L) w) : Hp w0 M (Res.own E sz (.slice (some ⟨b, 0, none⟩) 0 0) 0 [] :: L) w := by
  refine h.turn0 _ ?_ ?_
  · intro hr
    exact ⟨by simp, .inr ⟨b, 0, #[], rfl, Nat.zero_le _, hr, Nat.le_refl _, Nat.zero_le _, by simp, by simp⟩⟩
  · intro k hk
    have : some b = some k := hk
    exact (Option.some.inj this).symm
theorem flat_drop {α : Type} {f : α → List Value} {sz : Nat} (hf : ∀ x, (f x).length = sz) : ∀ (l : List α) (k : Nat), (l.flatMap f).drop (k * sz) = (l.drop k).flatMap f
  | [], k => by simp
  | x :: l, 0 => by simp
  | x :: l, k + 1 => by
    rw [List.flatMap_cons, show (k + 1) * sz = (f x).length + k * sz from by rw [hf x, Nat.add_mul]; omega, List.drop_length_add_append, flat_drop hf l k]; rfl
theorem flat_take2 {α : Type} {f : α → List Value} {sz : Nat} (hf : ∀ x, (f x).length = sz) : ∀ (l : List α) (k : Nat), (l.flatMap f).take (k * sz) = (l.take k).flatMap f
  | [], k => by simp
  | x :: l, 0 => by simp
  | x :: l, k + 1 => by
    rw [List.flatMap_cons, show (k + 1) * sz = (f x).length + k * sz from by rw [hf x, Nat.add_mul]; omega, List.take_length_add_append, flat_take2 hf l k]; rfl
theorem slr_take2 {α : Type} {w : World} {f : α → List Value} {a : Option Addr} {n k sz : Nat} {l : List α} (hf : ∀ x, (f x).length = sz) (h : SlR w a n (l.flatMap f)) (hk : k ≤ n) : SlR w a k ((l.take k).flatMap f) := by
  refine ⟨fun j u hu => ?_, fun h0 => h.some (by omega)⟩
  rw [← flat_take2 hf, List.getElem?_take] at hu
  split at hu
  · exact h.rd j u hu
  · simp at hu
theorem slr_drop {α : Type} {w : World} {f : α → List Value} {a : Option Addr} {n lo c sz : Nat} {l : List α} (hf : ∀ x, (f x).length = sz) (hl : l.length = n) (h : SlR w a n (l.flatMap f)) (hk : lo ≤ n) (hc : n ≤ c) : SlR w (slOff a c lo sz) (n - lo) ((l.drop lo).flatMap f) := by
  unfold slOff
  by_cases he : c = lo
  · have hd : l.drop lo = [] := List.drop_eq_nil_of_le (by omega)
    rw [if_pos he, hd]
    exact ⟨fun j u hu => by simp at hu, fun h0 => by omega⟩
  · rw [if_neg he]
    refine ⟨fun j u hu => ?_, fun h0 => ?_⟩
    · rw [← flat_drop hf, List.getElem?_drop] at hu
      have := h.rd _ u hu
      cases a with
      | none =>
        exfalso
        have hlt := (List.getElem?_eq_some_iff.1 hu).1
        rw [flat_len hf, hl] at hlt
        have : 0 < n := by
          rcases Nat.eq_zero_or_pos n with q | q
          · subst q; simp at hlt
          · exact q
        have := h.some this
        simp at this
      | some ad =>
        show w.cell? ((ad.add (lo * sz)).add j) = some u
        rw [addr_add2]; exact this
    · have := h.some (by omega)
      cases a with
      | none => simp at this
      | some ad => rfl
section
variable {P : Program} {N : Nat} {ops : Array Oper} {Q : Post} {next : Env → World → Prop} {e : Env} {w w0 : World} {M : Nat → Prop} {L : List Res} {ty : TypeId} {pos : String} {af : Array Edge} {d : Nat}
def builtNone (P : Program) (t : TypeId) : Option TypeId := match P.underlying t with
  | some (.slice el) => match P.info? el with
    | some _ => some el
    | none => none
  | _ => none
theorem opStep.buildSlice0 {T E : TypeId} (hp : Hp w0 M L w) (hc : builtNone P T = some E)
    (h : ∀ b w', Hp w0 M (Res.row b [] E :: L) w' → next (upd e d (.slice (some ⟨b, 0, none⟩) 0 0)) w') :
    opStep P N ops Q ⟨some d, .buildSlice T 0 #[], ty, pos, af, none⟩ next e w := by
  unfold builtNone at hc
  split at hc
  · rename_i el hu
    split at hc
    · rename_i i hi
      simp at hc
      subst hc
      refine opStep.val (v := .slice (some ⟨w.heap.size, 0, none⟩) 0 0) (w' := w.alloc (.cells [].toArray el (0, 0))) rfl ?_ (h _ _ (hp.alloc _))
      unfold execOp
      simp [Instr.buildSlice, run_underlying hu, Result.andThen_ok, sizeOf, typeInfo, run_program, hi, Instr.fill, newRow]
      rw [show Array.range 0 = #[] from rfl, Array.map_empty]
    · simp at hc
  · simp at hc
theorem opStep.appendS {T E ty2 : TypeId} {s x : Operand} {A B : List Res} {sz n m c c0 : Nat} {a a2 : Option Addr} {xs news : List Value} (hp : Hp w0 M (A ++ Res.own E sz (.slice a n c0) n xs :: B) w)
    (bytes : Nat) (hT : appInfo P T = some (E, sz, bytes))
    (hs : ev e s = .slice a n c0) (hx : ev e x = .slice a2 m c) (hr : SlR w a2 m news) (hl : news.length = m * sz) (h1 : ∀ u ∈ news, u.oneCell' = true) (hsz : 0 < sz)
    (hb : (n + m) * bytes ≤ 140737488355328) (h63 : n + m ≤ 9223372036854775807)
    (h : ∀ a' c' w', Hp w0 M (A ++ Res.own E sz (.slice a' (n + m) c') (n + m) (xs ++ news) :: B) w' → next (upd e d (.slice a' (n + m) c')) w') :
    opStep P N ops Q ⟨some d, .call ⟨.builtin .append, #[s, x], #[T, T]⟩, ty2, pos, af, none⟩ next e w := by
  cases a2 with
  | some ad =>
    refine opStep.append hp bytes hT hs hx hl hr.rd h1 hsz hb h63 ?_
    intro v' w' hp' hnil
    obtain ⟨a', c', rfl⟩ := own_slice hp'.get
    exact h a' c' w' hp'
  | none =>
    have hm : m = 0 := by
      rcases Nat.eq_zero_or_pos m with h0 | h0
      · exact h0
      · have := hr.some h0
        simp at this
    subst hm
    have hn : news = [] := List.eq_nil_of_length_eq_zero (by rw [hl]; simp)
    subst hn
    obtain ⟨i, z, hu, hi, hz, rfl, rfl, hzs⟩ := appInfo_spec hT
    have hle : n ≤ c0 := by
      rcases hp.get.2 with ⟨hv, h0⟩ | ⟨g, cap, cur, hv, _, _, h2, _⟩
      · omega
      · simp at hv; omega
    have hrun : (Builtin.append_ #[T, T] ty2 #[.slice a n c0, .slice none 0 c]).run P w = .ok (.slice a n c0) w := by
      cases a <;> simp [Builtin.append_, run_underlying hu, sizeOf, typeInfo, hi, Builtin.lenOf, Builtin.firstCells, hle, storeCells]
    refine opStep.val (v := .slice a n c0) (w' := w) rfl ?_ (h a c0 w ?_)
    · simp [execOp, resolve, invoke, builtin, hs, hx, hrun]
    · rw [List.append_nil]; exact hp
end
end Go.Proofs.YtbpedjefoajegaaDoor.K
