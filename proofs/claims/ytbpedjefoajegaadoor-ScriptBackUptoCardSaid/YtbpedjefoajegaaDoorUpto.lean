/- What is read is of bulk at most 1048576: each of its parts is. -/
import Derived.Test.YtbpedjefoajegaaDoorRows
import Derived.Test.YtbpedjefoajegaaDoorOpen
import Derived.JoinedCond
namespace Go.Proofs.YtbpedjefoajegaaDoor.K
open Go Go.Proofs Go.RowKit
set_option linter.unusedVariables false

theorem bulk_pos {H : Type} (d : DataW H) : 1 ≤ Rows.uptoBulk d := by
  cases d with
  | lit l => cases l <;> simp [Rows.uptoBulk]
  | nil => simp [Rows.uptoBulk]
  | ptr d => simp [Rows.uptoBulk]
  | slice elems spare => simp [Rows.uptoBulk]
  | agg parts => simp [Rows.uptoBulk]
  | iface t d => simp [Rows.uptoBulk]
  | map entries => simp [Rows.uptoBulk]
  | held h => simp [Rows.uptoBulk]
theorem bulk_mem {H : Type} {d : DataW H} : ∀ {l : List (DataW H)}, d ∈ l → Rows.uptoBulk d ≤ Rows.uptoBulkAll l
  | [], h => by cases h
  | x :: r, h => by
    simp only [Rows.uptoBulkAll]
    rcases List.mem_cons.1 h with rfl | h
    · omega
    · have := bulk_mem h; omega
theorem bulk_len {H : Type} : ∀ l : List (DataW H), l.length ≤ Rows.uptoBulkAll l
  | [] => by simp
  | x :: r => by have := bulk_pos x; have := bulk_len r; simp only [Rows.uptoBulkAll, List.length_cons]; omega
def WtU {H : Type} (t : TypeId) (d : DataW H) : Prop := Rows.uptoBulk d ≤ 1048576
theorem wt_upto {H : Type} (P : Program) : WtOk (H := H) P WtU (fun _ => 1048576) 1048576 where
  str := fun {t bytes} _ h => by
    have h : Rows.uptoBulk (DataW.lit (H := H) (.string bytes)) ≤ 1048576 := h
    simp only [Rows.uptoBulk] at h
    omega
  slice := fun {t e es sp} _ _ h => by
    have h : Rows.uptoBulk (DataW.slice es sp) ≤ 1048576 := h
    simp only [Rows.uptoBulk] at h
    have h1 := bulk_len es
    have h2 := bulk_len sp
    exact ⟨by omega, fun d hd => by have := bulk_mem hd; unfold WtU; omega⟩
  agg := fun {t fs ds} _ h i f d _ hd => by
    have h : Rows.uptoBulk (DataW.agg ds) ≤ 1048576 := h
    simp only [Rows.uptoBulk] at h
    have := bulk_mem (List.mem_of_getElem? hd)
    unfold WtU; omega
  arr := fun {t n e ds} _ h d hd => by
    have h : Rows.uptoBulk (DataW.agg ds) ≤ 1048576 := h
    simp only [Rows.uptoBulk] at h
    have := bulk_mem hd
    unfold WtU; omega
theorem wtu_of {H : Type} {ds : List (DataW H)} (hk : Rows.uptoSmall H ds = true) {t : TypeId} {d : DataW H} (hd : d ∈ ds) : WtU t d := by
  have h : Rows.uptoBulkAll ds ≤ 1048576 := of_decide_eq_true hk
  exact Nat.le_trans (bulk_mem hd) h
end Go.Proofs.YtbpedjefoajegaaDoor.K
