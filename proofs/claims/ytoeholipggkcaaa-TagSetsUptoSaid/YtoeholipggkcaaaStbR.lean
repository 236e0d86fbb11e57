/- Calls of function values whose function is a letter; halves of words. -/
import Derived.Test.YtoeholipggkcaaaStbL
import Derived.Test.YtoeholipggkcaaaCoreO
namespace Go.Proofs.Ytoeholipggkcaaa.K
open Go Go.RowKit
section
variable {P : Program} {N : Nat} {ops : Array Oper} {Q : Post} {next : Env → World → Prop} {e : Env} {w w0 : World} {M : Nat → Prop} {L : List Res} {ty : TypeId} {pos : String} {af : Array Edge} {d : Nat}
theorem opStep.callE {f : FuncId} {x : Operand} {cap : Array Value} {args : Array Operand} {ts : Array TypeId} {R : Ending → World → Prop} (dst : Option Tmp) (vs : List Value) (hx : ev e x = .func (.func f) #[] cap)
    (eg : ∀ args w, (callFunc f args).run P w = .ok (.enter f args) w) (hvs : args.toList.map (ev e) ++ cap.toList = vs) (hc : Calls P f vs.toArray w R)
    (h : ∀ x w', R x w' → ∃ v, x = .returned v ∧ next (put e dst v) w') :
    opStep P N ops Q ⟨dst, .call ⟨.value x, args, ts⟩, ty, pos, af, none⟩ next e w := by
  refine opStep.enter (w' := w) (f := f) (args := vs.toArray) rfl ?_ hc h
  have hm : args.map (ev e) ++ cap = vs.toArray := by rw [← hvs]; apply Array.ext'; simp
  simp only [execOp, resolve, hx, Deferred.ofValue, Sem.run_bind]
  simp [invoke, hm, eg]
theorem opStep.callX {f : FuncId} {x : Operand} {cap : Array Value} {args : Array Operand} {ts : Array TypeId} {v : Value} {w' : World} (dst : Option Tmp) (vs : List Value) (hx : ev e x = .func (.func f) #[] cap)
    (hvs : args.toList.map (ev e) ++ cap.toList = vs) (hr : (callFunc f vs.toArray).run P w = .ok (.value v) w')
    (h : next (put e dst v) w') :
    opStep P N ops Q ⟨dst, .call ⟨.value x, args, ts⟩, ty, pos, af, none⟩ next e w := by
  refine opStep.val (v := v) (w' := w') rfl ?_ h
  have hm : args.map (ev e) ++ cap = vs.toArray := by rw [← hvs]; apply Array.ext'; simp
  simp only [execOp, resolve, hx, Deferred.ofValue, Sem.run_bind]
  simp [invoke, hm, hr]
end
theorem half_shr {a : Nat} : ((a : Nat) : Int).fdiv (2 ^ (min (1 : Int).toNat IntKind.u64.bits)) = ((a / 2 : Nat) : Int) := by
  rw [show (2 : Int) ^ (min (1 : Int).toNat IntKind.u64.bits) = 2 from by decide, Int.fdiv_eq_ediv_of_nonneg _ (by omega)]; rfl
end Go.Proofs.Ytoeholipggkcaaa.K
