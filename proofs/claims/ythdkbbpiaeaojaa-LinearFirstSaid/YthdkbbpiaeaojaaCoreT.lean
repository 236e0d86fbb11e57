/- Appending a slice that is read; an empty row as a slice of one's own. -/
import Derived.Test.YthdkbbpiaeaojaaCoreX
import Derived.Test.YthdkbbpiaeaojaaCoreR
import Derived.Test.YthdkbbpiaeaojaaCoreP
namespace Go.Proofs.Ythdkbbpiaeaojaa.K
open Go Go.RowKit

theorem flat_n {α : Type} {f : α → List Value} {sz m : Nat} {l : List α} (hf : ∀ x, (f x).length = sz) (h : l.length = m) : (l.flatMap f).length = m * sz := by rw [flat_len hf, h]
theorem one_flat {α : Type} {f : α → List Value} {l : List α} (h : ∀ x, (f x).all (·.oneCell') = true) : ∀ u ∈ l.flatMap f, u.oneCell' = true := by
  intro u hu
  obtain ⟨x, _, hx⟩ := List.mem_flatMap.1 hu
  exact List.all_eq_true.1 (h x) u hx
theorem Hp.rowOwn {w w0 : World} {M : Nat → Prop} {L : List Res} {b E : Nat} (sz : Nat) (h : Hp w0 M (Res.row b [] E :: L) w) : Hp w0 M (Res.own E sz (.slice (some ⟨b, 0, none⟩) 0 0) 0 [] :: L) w := by
  refine h.turn0 _ ?_ ?_
  · intro hr
    exact ⟨by simp, .inr ⟨b, 0, #[], rfl, Nat.zero_le _, hr, Nat.le_refl _, Nat.zero_le _, by simp, by simp⟩⟩
  · intro k hk
    have : some b = some k := hk
    exact (Option.some.inj this).symm
section
variable {P : Program} {N : Nat} {ops : Array Oper} {Q : Post} {next : Env → World → Prop} {e : Env} {w w0 : World} {M : Nat → Prop} {L : List Res} {ty : TypeId} {pos : String} {af : Array Edge} {d : Nat}
def builtNone (P : Program) (t : TypeId) : Option TypeId := match P.underlying t with
  | some (.slice el) => match P.info? el with
    | some _ => some el
    | none => none
  | _ => none
theorem opStep.buildSlice0 {T E : TypeId} (hp : Hp w0 M L w) (hc : builtNone P T = some E)
    (h : ∀ b w', Hp w0 M (Res.row b [] E :: L) w' → next (upd e d (.slice (some ⟨b, 0, none⟩) 0 0)) w') :
    opStep P N ops Q ⟨some d, .buildSlice T 0 #[], ty, pos, af, none⟩ next e w := by
  unfold builtNone at hc
  split at hc
  · rename_i el hu
    split at hc
    · rename_i i hi
      simp at hc
      subst hc
      refine opStep.val (v := .slice (some ⟨w.heap.size, 0, none⟩) 0 0) (w' := w.alloc (.cells [].toArray el (0, 0))) rfl ?_ (h _ _ (hp.alloc _))
      unfold execOp
      simp [Instr.buildSlice, run_underlying hu, Result.andThen_ok, sizeOf, typeInfo, run_program, hi, Instr.fill, newRow]
      rw [show Array.range 0 = #[] from rfl, Array.map_empty]
    · simp at hc
  · simp at hc
theorem opStep.appendS {T E ty2 : TypeId} {s x : Operand} {A B : List Res} {sz n m c c0 : Nat} {a a2 : Option Addr} {xs news : List Value} (hp : Hp w0 M (A ++ Res.own E sz (.slice a n c0) n xs :: B) w)
    (bytes : Nat) (hT : appInfo P T = some (E, sz, bytes))
    (hs : ev e s = .slice a n c0) (hx : ev e x = .slice a2 m c) (hr : SlR w a2 m news) (hl : news.length = m * sz) (h1 : ∀ u ∈ news, u.oneCell' = true) (hsz : 0 < sz)
    (hb : (n + m) * bytes ≤ 140737488355328) (h63 : n + m ≤ 9223372036854775807)
    (h : ∀ a' c' w', Hp w0 M (A ++ Res.own E sz (.slice a' (n + m) c') (n + m) (xs ++ news) :: B) w' → next (upd e d (.slice a' (n + m) c')) w') :
    opStep P N ops Q ⟨some d, .call ⟨.builtin .append, #[s, x], #[T, T]⟩, ty2, pos, af, none⟩ next e w := by
  cases a2 with
  | some ad =>
    refine opStep.append hp bytes hT hs hx hl hr.rd h1 hsz hb h63 ?_
    intro v' w' hp' hnil
    obtain ⟨a', c', rfl⟩ := own_slice hp'.get
    exact h a' c' w' hp'
  | none =>
    have hm : m = 0 := by
      rcases Nat.eq_zero_or_pos m with h0 | h0
      · exact h0
      · have := hr.some h0
        simp at this
    subst hm
    have hn : news = [] := List.eq_nil_of_length_eq_zero (by rw [hl]; simp)
    subst hn
    obtain ⟨i, z, hu, hi, hz, rfl, rfl, hzs⟩ := appInfo_spec hT
    have hle : n ≤ c0 := by
      rcases hp.get.2 with ⟨hv, h0⟩ | ⟨g, cap, cur, hv, _, _, h2, _⟩
      · omega
      · simp at hv; omega
    have hrun : (Builtin.append_ #[T, T] ty2 #[.slice a n c0, .slice none 0 c]).run P w = .ok (.slice a n c0) w := by
      cases a <;> simp [Builtin.append_, run_underlying hu, sizeOf, typeInfo, hi, Builtin.lenOf, Builtin.firstCells, hle, storeCells]
    refine opStep.val (v := .slice a n c0) (w' := w) rfl ?_ (h a c0 w ?_)
    · simp [execOp, resolve, invoke, builtin, hs, hx, hrun]
    · rw [List.append_nil]; exact hp
end
end Go.Proofs.Ythdkbbpiaeaojaa.K
