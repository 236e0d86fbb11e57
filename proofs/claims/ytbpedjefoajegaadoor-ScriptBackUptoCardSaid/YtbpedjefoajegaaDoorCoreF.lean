/- A constant's bytes: a row that is marked. -/
import Derived.Test.YtbpedjefoajegaaDoorCoreY
namespace Go.Proofs.YtbpedjefoajegaaDoor.K
open Go Go.RowKit
set_option linter.unusedSimpArgs false
def convBB (P : Program) (t : TypeId) : Bool := match P.underlying t with
  | some (.slice e) => (match P.underlying e with | some (.int .u8) => true | _ => false)
  | _ => false
theorem freeze_row {w : World} {b k : Nat} {cs : Array Value} {E : TypeId} (h : w.heap[b]? = some (.cells cs E (0, 0))) : (w.freeze ⟨b, k, none⟩ 1).heap[b]? = some (.cells cs E (k, k + 1)) ∧ Fram (fun x => x = b) w (w.freeze ⟨b, k, none⟩ 1) := by
  unfold World.freeze
  rw [if_neg (by decide)]
  refine ⟨?_, rfl, rfl, rfl, by simp, fun j hj hn => ?_⟩
  · simp only [Array.getElem?_modify, if_true, h, Option.map_some]; rfl
  · simp only [Array.getElem?_modify, if_neg (show ¬ b = j from fun e => hn e.symm)]
section
variable {P : Program} {N : Nat} {ops : Array Oper} {Q : Post} {next : Env → World → Prop} {e : Env} {w w0 : World} {M : Nat → Prop} {L : List Res} {ty : TypeId} {pos : String} {af : Array Edge} {d : Nat}
theorem opStep.markBytes {t E : TypeId} {x : Operand} {b n c : Nat} {cs : List Value} (hp : Hp w0 M (Res.row b cs E :: L) w) (hT : convBB P t = true) (hx : ev e x = .slice (some ⟨b, 0, none⟩) n c) (s : ByteArray) (hcs : (bytesI s).flatMap u8c = cs)
    (h : ∀ w', Hp w0 M (Res.bs b s :: L) w' → next (upd e d (.slice (some ⟨b, 0, none⟩) n c)) w') :
    opStep P N ops Q ⟨some d, .convert t t x, ty, pos, af, none⟩ next e w := by
  unfold convBB at hT
  split at hT
  · rename_i E2 ht
    split at hT
    · rename_i he
      have hrow : w.heap[b]? = some (.cells cs.toArray E (0, 0)) := hp.get0
      obtain ⟨h1, hf⟩ := freeze_row (k := cs.toArray.size) hrow
      refine opStep.val (v := .slice (some ⟨b, 0, none⟩) n c) (w' := w.freeze ⟨b, cs.toArray.size, none⟩ 1) rfl ?_ (h _ ?_)
      · have hsh : w.shape? b = some (E, cs.toArray.size) := by unfold World.shape?; rw [hrow]
        simp [execOp, convert, run_underlying ht, run_underlying he, hx, markStringish, hsh]
      · refine Hp.mod (A := []) hp hf (Res.bs b s) ⟨_, _, _, h1, fun j u hu => by rw [hcs] at hu; simpa using hu⟩ fun k hk => ⟨?_, .inl hk⟩
        have : k = b := hk
        subst this
        exact Nat.lt_of_lt_of_le (hp.lt0 k rfl) hf.size
    · cases hT
  · cases hT
end
end Go.Proofs.YtbpedjefoajegaaDoor.K
