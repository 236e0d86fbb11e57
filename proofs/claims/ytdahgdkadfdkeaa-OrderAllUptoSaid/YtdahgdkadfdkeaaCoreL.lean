/- delete, and things of a caller's that are read. -/
import Derived.Test.YtdahgdkadfdkeaaCoreK
import Derived.Test.YtdahgdkadfdkeaaOrdB
namespace Go.Proofs.Ytdahgdkadfdkeaa.K
open Go Go.RowKit
set_option linter.unusedVariables false
set_option linter.unusedSimpArgs false
theorem map_erase {α β : Type} (f : α → β) : ∀ (l : List α) (j : Nat), (l.eraseIdx j).map f = (l.map f).eraseIdx j
  | [], j => by simp
  | x :: l, 0 => by simp
  | x :: l, j + 1 => by simp [map_erase f l j]
theorem row_at {w w' : World} {b : Nat} {c : List Value} {T : TypeId} (h : (Res.row b c T).holds w) (hf : Fram Non w w') : (Res.row b c T).holds w' := by
  have h' : w.heap[b]? = some (.cells c.toArray T (0, 0)) := h
  exact (hf.block b (Array.getElem?_eq_some_iff.1 h').1 id).trans h'
theorem mp_at {κ ν : Type} {kf : κ → Value} {vf : ν → Value} {l : List (κ × ν)} {w w' : World} {b : Nat} (h : (Res.mp b kf vf l).holds w) (hf : Fram Non w w') : (Res.mp b kf vf l).holds w' := by
  obtain ⟨es, c, h1, h2⟩ := h
  exact ⟨es, c, (hf.block b (Array.getElem?_eq_some_iff.1 h1).1 id).trans h1, h2⟩
section
variable {κ ν : Type} {P : Program} {t : TypeId} {kf : κ → Value} {vf : ν → Value} [DecidableEq κ] {N : Nat} {ops : Array Oper} {Q : Post} {next : Env → World → Prop} {e : Env} {w w0 : World} {M : Nat → Prop} {A B : List Res} {ty : TypeId} {pos : String} {af : Array Edge}
theorem Born.erase {es : Array MapEntry} {c i : Nat} (h : Born es c) : Born (es.eraseIdxIfInBounds i) c := by
  have hs : (es.eraseIdxIfInBounds i).toList.Sublist es.toList := by
    unfold Array.eraseIdxIfInBounds
    split
    · rw [Array.toList_eraseIdx]; exact List.eraseIdx_sublist _ _
    · exact List.Sublist.refl _
  exact ⟨h.1.sublist hs, fun e he => h.2 e (hs.subset he)⟩
theorem run_delete {mt et kt : TypeId} {b : Nat} {l : List (κ × ν)} (K : KeyOk P t kf) (hm : P.underlying mt = some (.map t et)) (h : (Res.mp b kf vf l).holds w) (k : κ) :
    ∃ w', (Builtin.delete_ #[mt, kt] ty #[.map (some b), kf k]).run P w = .ok (.tuple #[]) w' ∧ (Res.mp b kf vf (mapDel l k)).holds w' ∧ Fram (fun x => x = b) w w' := by
  obtain ⟨es, c, hb, he, hbn⟩ := h
  have hf := find_ents (P := P) (w := w) K k es.toList l 0 he
  have hg : (getObj b).run P w = .ok (.map es c) w := MapKept.run_getObj_map hb
  have fr : ∀ o, Fram (fun x => x = b) w { w with heap := w.heap.setIfInBounds b o } := fun o => ⟨rfl, rfl, rfl, by simp, fun i _ hn => (MapKept.heap_set hb).2 i hn⟩
  cases hx : l.findIdx? (fun p => decide (k = p.1)) with
  | none =>
    refine ⟨_, ?_, ⟨es, c, (MapKept.heap_set (o' := .map es c) hb).1, ?_, hbn⟩, fr _⟩
    · simp only [Builtin.delete_, Sem.run_bind, run_underlying hm, Result.andThen_ok, hg, run_chk (K.chk k), findKey_wide K, hf, hx, Option.bind_none, List.getElem?_toArray, List.getElem?_cons_zero, List.getElem?_cons_succ]
      rw [MapKept.run_setObj_map _ hb]; rfl
    · unfold mapDel; rw [hx]; exact he
  | some j =>
    obtain ⟨hj, hp, _⟩ := List.findIdx?_eq_some_iff_getElem.1 hx
    have hlen : es.size = l.length := by have := congrArg List.length he; simpa using this
    refine ⟨_, ?_, ⟨es.eraseIdxIfInBounds j, c, (MapKept.heap_set (o' := .map (es.eraseIdxIfInBounds j) c) hb).1, ?_, hbn.erase⟩, fr _⟩
    · simp only [Builtin.delete_, Sem.run_bind, run_underlying hm, Result.andThen_ok, hg, run_chk (K.chk k), findKey_wide K, hf, hx, Option.bind_some, List.getElem?_eq_getElem hj, Option.map_some, Nat.zero_add, List.getElem?_toArray, List.getElem?_cons_zero, List.getElem?_cons_succ]
      rw [MapKept.run_setObj_map _ hb]; rfl
    · unfold mapDel; rw [hx]
      unfold Ents at *
      have hlt : j < es.size := by omega
      unfold Array.eraseIdxIfInBounds
      rw [dif_pos hlt, Array.toList_eraseIdx, map_erase, map_erase, he]
theorem opStep.deleteK {mt et kt : TypeId} {x y : Operand} {b : Nat} {l : List (κ × ν)} (K : KeyOk P t kf) (hm : P.underlying mt = some (.map t et)) (hp : Hp w0 M (Res.mp b kf vf l :: B) w) (k : κ)
    (hx : (ev e x, ev e y) = (.map (some b), kf k))
    (h : ∀ w', Hp w0 M (Res.mp b kf vf (mapDel l k) :: B) w' → next e w') :
    opStep P N ops Q ⟨none, .call ⟨.builtin .delete, #[x, y], #[mt, kt]⟩, ty, pos, af, none⟩ next e w := by
  simp only [Prod.mk.injEq] at hx
  obtain ⟨hx, hy⟩ := hx
  obtain ⟨w', hrun, hh, hf⟩ := run_delete (P := P) (w := w) (ty := ty) (kt := kt) K hm (Hp.get (A := []) hp) k
  refine opStep.val (v := .tuple #[]) (w' := w') rfl ?_ (h w' ?_)
  · simp [execOp, resolve, invoke, builtin, hx, hy, hrun]
  · exact Hp.mod (A := []) hp hf _ hh fun i hi => ⟨Nat.lt_of_lt_of_le (Hp.lt (A := []) hp i hi) hf.size, .inl hi⟩
end
end Go.Proofs.Ytdahgdkadfdkeaa.K
