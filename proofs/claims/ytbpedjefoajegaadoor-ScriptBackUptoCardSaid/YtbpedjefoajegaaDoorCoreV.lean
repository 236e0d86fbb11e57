/- Loops gone through round by round; arrays at an index that is reckoned. -/
import Derived.Test.YtbpedjefoajegaaDoorCoreU
namespace Go.Proofs.YtbpedjefoajegaaDoor.K
open Go Go.RowKit

section
variable {P : Program} {N : Nat} {Q : Post} {e : Env} {w : World}
/-- So many rounds at most. -/
def RND (P : Program) (N : Nat) (c : Code) (Q : Post) : Nat → Env → World → Prop
  | 0, _, _ => False
  | n + 1, e, w => WP P N c (thn (RND P N c Q n) Q) e w
theorem RND.step {c : Code} {n : Nat} (h : WP P N c (thn (RND P N c Q n) Q) e w) : RND P N c Q (n + 1) e w := h
theorem WP.rounds {c : Code} (n : Nat) (h : RND P N c Q n e w) : WP P N (.loop c) Q e w := by
  refine WP.loop (fun m e w => RND P N c Q m e w) n h ?_
  intro m e w hm
  cases m with
  | zero => exact hm.elim
  | succ m =>
    refine WP.mono (show WP P N c (thn (RND P N c Q m) Q) e w from hm) ?_
    intro x e w hq
    cases x with
    | normal => exact ⟨m, Nat.lt_succ_self m, hq⟩
    | _ => exact hq
end

/-- A cell of a row that is known whole, at a reckoned place. -/
theorem Ld.rowAt {P : Program} {w : World} {t T : TypeId} {b o i : Nat} {c : List Value} {v : Value} (h : (Res.row b c T).holds w) (hc : isAggB P t = some false) (hv : c[o + i]? = some v) : Ld P w t ((⟨b, o, none⟩ : Addr).add (i * 1)) v := by
  rw [add_mk, Nat.mul_one]
  exact Ld.one hc (cell_row h _ v hv)
theorem slr_take {α : Type} {w : World} {f : α → List Value} {a : Option Addr} {n k sz : Nat} {l : List α} (hf : ∀ x, (f x).length = sz) (h : SlR w a n (l.flatMap f)) (hk : k ≤ n) : SlR w a k ((l.take k).flatMap f) := by
  refine ⟨fun j u hu => ?_, fun h0 => h.some (by omega)⟩
  rw [← flat_take hf, List.getElem?_take] at hu
  split at hu
  · exact h.rd j u hu
  · simp at hu
section
variable {P : Program} {N : Nat} {ops : Array Oper} {Q : Post} {next : Env → World → Prop} {e : Env} {w w0 : World} {M : Nat → Prop} {L : List Res} {ty : TypeId} {pos : String} {af : Array Edge}
theorem opStep.storeAt {T t : TypeId} {x y : Operand} {b o i : Nat} {c : List Value} (hp : Hp w0 M (Res.row b c t :: L) w) (hx : ev e x = .pointer (some ((⟨b, o, none⟩ : Addr).add (i * 1)))) (v : Value) (c' : List Value)
    (hc : ((ev e y).cells.toList, (P.info? T).map (·.size), v.oneCell') = ([v], some 1, true)) (hl : o + i < c.length) (how : ow c (o + i) [v] = c')
    (h : ∀ w', Hp w0 M (Res.row b c' t :: L) w' → next e w') :
    opStep P N ops Q ⟨none, .store T x y, ty, pos, af, none⟩ next e w := by
  simp only [Prod.mk.injEq] at hc
  obtain ⟨hv, hsz, h1⟩ := hc
  rw [add_mk, Nat.mul_one] at hx
  cases hi : P.info? T with
  | none => simp [hi] at hsz
  | some i' =>
    simp [hi] at hsz
    have hg : w.heap[b]? = some (.cells c.toArray t (0, 0)) := hp.holds (Res.row b c t) (by simp)
    have hlt : b < w.heap.size := (Array.getElem?_eq_some_iff.1 hg).1
    have hrun := run_storeCells_at (P := P) b t (o + i) [v] 0 c w hg (by simp; omega) (by simpa using h1)
    rw [Nat.add_zero, how] at hrun
    refine opStep.skip (w' := w.setRow b c'.toArray) rfl ?_ (h _ ?_)
    · have hs2 : (ev e y).cells.size = i'.size := by rw [hsz]; have := congrArg List.length hv; simpa using this
      simp [execOp, Instr.storeAt, Instr.sureAddr, hx, storeVar, sizeOf, typeInfo, hi, hs2, hv, hrun]
    · refine Hp.mod (A := []) hp (setRow_fram w b _) (Res.row b c' t) (setRow_heap w b _ _ t _ hg) fun k hk => ⟨?_, .inl hk⟩
      have : k = b := hk
      subst this; simpa using hlt
end
end Go.Proofs.YtbpedjefoajegaaDoor.K
