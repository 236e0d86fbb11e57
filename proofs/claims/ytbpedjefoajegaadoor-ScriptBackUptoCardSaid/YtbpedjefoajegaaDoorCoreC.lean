/- Operations that leave the world alone, second part: what 'binV' and 'pureOp' say is so. -/
import Derived.Test.YtbpedjefoajegaaDoorCoreB
namespace Go.Proofs.YtbpedjefoajegaaDoor.K
open Go

def isConst : Operand → Bool | .const _ => true | _ => false

theorem run_intBin {P : Program} {w : World} {k : IntKind} {op : BinOp} {wr : Bool} {a b : Int} {v : Value} {vc : List Prop} (t : TypeId) (h : intBin k op wr a b = some (v, vc)) (hv : All vc) :
    (binOp op t (.int k a) (.int k b)).run P w = .ok v w := by
  cases op <;> simp [intBin] at h
  case add => cases wr <;> simp at h <;> obtain ⟨rfl, rfl⟩ := h <;> simp [binOp, Op.intArith] <;> exact wrap_of hv
  case sub => cases wr <;> simp at h <;> obtain ⟨rfl, rfl⟩ := h <;> simp [binOp, Op.intArith] <;> exact wrap_of hv
  case mul => cases wr <;> simp at h <;> obtain ⟨rfl, rfl⟩ := h <;> simp [binOp, Op.intArith] <;> exact wrap_of hv
  case quo =>
    cases wr <;> simp at h <;> obtain ⟨rfl, rfl⟩ := h
    · simp [binOp, Op.intDiv, hv.1, wrap_of hv.2]
    · simp [binOp, Op.intDiv, show b ≠ 0 from hv]
  case rem =>
    obtain ⟨rfl, rfl⟩ := h
    simp [binOp, Op.intDiv, show b ≠ 0 from hv]
  all_goals (obtain ⟨rfl, rfl⟩ := h; simp [binOp, Op.intCmp, Op.intBits, dec_eq, bne])

theorem equalIn_nil {P : Program} {w : World} {t : TypeId} {ms : Array (String × TypeId)} (d : Nat) (hu : P.underlying t = some (.interface ms)) :
    (Op.equalIn (d + 1) t .nilIface .nilIface).run P w = .ok true w := by simp [Op.equalIn, run_underlying hu]

theorem run_binV {P : Program} {w : World} {op : BinOp} {wr : Bool} {t : TypeId} {x y : Operand} {u v z : Value} {vc : List Prop}
    (h : binV P op wr (isConst x || isConst y) t u v = some (z, vc)) (hv : All vc) :
    (do eqGuard op t x y u v; binOp op t u v : Sem Value).run P w = .ok z w := by
  have cstOr : (isConst x || isConst y) = true → (eqGuard op t x y .nilIface .nilIface).run P w = .ok () w := by
    intro hc
    cases x <;> cases y <;> simp [isConst] at hc <;> cases op <;> simp [eqGuard]
  unfold binV at h
  split at h
  · -- shl
    rename_i b
    cases wr <;> simp at h <;> obtain ⟨rfl, rfl⟩ := h
    · have h0 : 0 ≤ b := hv.1
      simp [eqGuard, binOp, Op.shift, show ¬ b < 0 from by omega, wrap_of hv.2]
    · have h0 : 0 ≤ b := hv
      simp [eqGuard, binOp, Op.shift, show ¬ b < 0 from by omega]
  · rename_i b
    simp at h; obtain ⟨rfl, rfl⟩ := h
    have h0 : 0 ≤ b := hv
    simp [eqGuard, binOp, Op.shift, show ¬ b < 0 from by omega]
  · -- ints
    split at h
    · rename_i hk; subst hk
      have := run_intBin (P := P) (w := w) t h hv
      cases op <;> simp [eqGuard, this]
    · simp at h
  all_goals first
    | (simp at h; done)
    | skip
  · simp at h; obtain ⟨rfl, rfl⟩ := h
    rename_i a b
    have h0 : a.size + b.size ≤ 9223372036854775807 := hv
    have h1 : ¬ (((a.size + b.size : Nat) : Int) > IntKind.i64.max) := by
      simp only [IntKind.max, IntKind.signed, IntKind.bits, if_true]; omega
    simp only [eqGuard, binOp, Op.stringOp, if_neg h1, Sem.run_bind]
    simp
  · simp at h; obtain ⟨rfl, rfl⟩ := h; simp [eqGuard, binOp, Op.stringOp, bytes_eq]
  · simp at h; obtain ⟨rfl, rfl⟩ := h; simp [eqGuard, binOp, Op.stringOp, bytes_eq]
  · simp at h; obtain ⟨rfl, rfl⟩ := h; simp [eqGuard, binOp, Op.stringOp]
  · simp at h; obtain ⟨rfl, rfl⟩ := h; simp [eqGuard, binOp, Op.stringOp, bytes_eq]
  · simp at h; obtain ⟨rfl, rfl⟩ := h; simp [eqGuard, binOp, Op.stringOp, bytes_eq]
  · simp at h; obtain ⟨rfl, rfl⟩ := h; simp [eqGuard, binOp, Op.stringOp]
  · -- structs
    split at h
    · split at h
      · simp at h
      · rename_i hg
        simp at h
        rcases h with ⟨hb, rfl, rfl⟩ | ⟨hb, rfl, rfl⟩
        all_goals (have := run_eqV (P := P) (w := w) (m := 9996) hb; simp [run_eqGuard_agg (P := P) w .eql t x y _ _ (by simpa using hg), run_eql_struct, this])
    · simp at h
  · split at h
    · split at h
      · simp at h
      · rename_i hg
        simp at h
        rcases h with ⟨hb, rfl, rfl⟩ | ⟨hb, rfl, rfl⟩
        all_goals (have := run_eqV (P := P) (w := w) (m := 9996) hb; simp [run_eqGuard_agg (P := P) w .neq t x y _ _ (by simpa using hg), run_neq_struct, this])
    · simp at h
  · split at h
    · rename_i ms hu
      split at h
      · rename_i hc
        simp at h; obtain ⟨rfl, rfl⟩ := h
        have := cstOr hc
        have h2 : (Op.equalIn 10000 t .nilIface .nilIface).run P w = .ok true w := equalIn_nil 9999 hu
        simp only [Sem.run_bind, this, Result.andThen_ok, binOp]
        simp [Op.equal, Op.maxDepth, h2]
      · simp at h
    · simp at h
  · split at h
    · rename_i ms hu
      split at h
      · rename_i hc
        simp at h; obtain ⟨rfl, rfl⟩ := h
        have := cstOr hc
        have h2 : (Op.equalIn 10000 t .nilIface .nilIface).run P w = .ok true w := equalIn_nil 9999 hu
        simp only [Sem.run_bind, this, Result.andThen_ok, binOp]
        simp [Op.equal, Op.maxDepth, h2]
      · simp at h
    · simp at h
  all_goals
    split at h
    case isFalse => simp at h
    case isTrue hp =>
      simp at h
      rcases h with ⟨hb, rfl, rfl⟩ | ⟨hb, rfl, rfl⟩
      all_goals
        have h1 := run_eqV (P := P) (w := w) (m := 9996) hb
        unfold plainEq at hp
        split at hp
        all_goals first
          | (simp at hp; done)
          | (simp [eqGuard, binOp, Op.equal, Op.maxDepth, h1]; done)

end Go.Proofs.YtbpedjefoajegaaDoor.K
