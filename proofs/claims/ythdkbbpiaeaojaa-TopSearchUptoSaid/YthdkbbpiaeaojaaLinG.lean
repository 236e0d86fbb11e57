/- Orders that explain, and paths of the search. -/
import Derived.Test.YthdkbbpiaeaojaaLawE
import Derived.Test.YthdkbbpiaeaojaaCoreZ
namespace Go.Proofs.Ythdkbbpiaeaojaa.K
open Go Go.RowKit

def SeqOk (val : SlH → ByteArray) (l : List GCall) (os : List Nat) : Prop := ∀ k, k < os.length → mayA val l (os.take k) os[k]!
theorem seq_snoc {val : SlH → ByteArray} {l : List GCall} {os : List Nat} {j : Nat} (h : SeqOk val l os) (hj : mayA val l os j) : SeqOk val l (os ++ [j]) := by
  intro k hk
  have hk' : k < os.length + 1 := by simpa using hk
  rw [app_bang hk']
  by_cases hlt : k < os.length
  · rw [if_pos hlt, List.take_append_of_le_length (by omega)]
    exact h k hlt
  · obtain rfl : k = os.length := by omega
    rw [if_neg hlt, List.take_left']
    · exact hj
    · rfl
theorem path_seq {val : SlH → ByteArray} {l : List GCall} : ∀ {q pre : List Nat}, SeqOk val l pre → PathA val l pre q → SeqOk val l (pre ++ q) ∧ doneA l (pre ++ q)
  | [], pre, h, hp => by rw [List.append_nil]; exact ⟨h, hp⟩
  | j :: q, pre, h, hp => by
    have := path_seq (seq_snoc h hp.2.1) hp.2.2
    rw [List.append_assoc] at this
    exact this
theorem seq_path {val : SlH → ByteArray} {l : List GCall} {os : List Nat} (h : SeqOk val l os) (hd : doneA l os) : ∀ d, d ≤ os.length → ∃ q, PathA val l (os.take (os.length - d)) q
  | 0, _ => ⟨[], by rw [Nat.sub_zero, List.take_length]; exact hd⟩
  | d + 1, hle => by
    by_cases hdn : doneA l (os.take (os.length - (d + 1)))
    · exact ⟨[], hdn⟩
    · obtain ⟨q, hq⟩ := seq_path h hd d (by omega)
      have hk : os.length - (d + 1) < os.length := by omega
      refine ⟨os[os.length - (d + 1)]! :: q, hdn, h _ hk, ?_⟩
      rw [← take_snoc_get hk, show os.length - (d + 1) + 1 = os.length - d from by omega]
      exact hq
theorem posI_at {os : List Nat} {k : Nat} (hn : os.Nodup) (hk : k < os.length) : posI os os[k]! = (k : Int) := by
  have e : os[k]! = os[k] := by
    have := get_bang hk
    rw [List.getElem?_eq_getElem hk] at this
    cases this' : os[k]! <;> simp_all
  unfold posI
  rw [e, if_pos (List.getElem_mem hk), hn.idxOf_getElem]
theorem posI_take {os : List Nat} {i k : Nat} (hm : i ∈ os) (h : posI os i < (k : Int)) : i ∈ os.take k := by
  unfold posI at h
  rw [if_pos hm] at h
  have hl : os.idxOf i < os.length := List.idxOf_lt_length_of_mem hm
  have hg : os[os.idxOf i]? = some i := by rw [List.getElem?_eq_getElem hl]; simp
  have : (os.take k)[os.idxOf i]? = some i := by rw [List.getElem?_take, if_pos (by omega)]; exact hg
  exact List.mem_of_getElem? this
theorem take_posI {os : List Nat} {i k : Nat} (h : i ∈ os.take k) : posI os i < (k : Int) := by
  have hm : i ∈ os := List.mem_of_mem_take h
  unfold posI
  rw [if_pos hm]
  have hl : (os.take k).idxOf i < (os.take k).length := List.idxOf_lt_length_of_mem h
  have e : os.idxOf i = (os.take k).idxOf i := by
    conv => lhs; rw [← List.take_append_drop k os]
    rw [List.idxOf_append, if_pos h]
  rw [List.length_take] at hl
  omega
theorem nodup_of_seq {os : List Nat} (h : ∀ k, k < os.length → ¬ os[k]! ∈ os.take k) : ∀ k, k ≤ os.length → (os.take k).Nodup
  | 0, _ => by simp
  | k + 1, hk => by
    rw [take_snoc_get (by omega), List.nodup_append]
    exact ⟨nodup_of_seq h k (by omega), by simp, fun a ha b hb e => h k (by omega) (by rw [← List.mem_singleton.1 hb, ← e]; exact ha)⟩
theorem mem_bang {os : List Nat} {x : Nat} (h : x ∈ os) : ∃ k, k < os.length ∧ os[k]! = x := by
  obtain ⟨k, hk⟩ := List.mem_iff_getElem?.1 h
  have hl := (List.getElem?_eq_some_iff.1 hk).1
  refine ⟨k, hl, ?_⟩
  have := get_bang hl
  rw [hk] at this
  exact (Option.some.inj this).symm
theorem seq_expl {val : SlH → ByteArray} {l : List GCall} {os : List Nat} (h : SeqOk val l os) (hd : doneA l os) : Expl val l os := by
  have hn : os.Nodup := by have := nodup_of_seq (os := os) (fun k hk => (h k hk).2.2.1) os.length (Nat.le_refl _); rwa [List.take_length] at this
  refine ⟨hn, fun x hx => ?_, hd, fun i j hi hj hm h0 hlt hjo => ?_, fun k hk => (h k hk).2.2.2.2⟩
  · obtain ⟨k, hk, rfl⟩ := mem_bang hx
    exact ⟨(h k hk).1, (h k hk).2.1⟩
  · by_cases hij : i = j
    · subst hij; exact Int.le_refl _
    · obtain ⟨k, hk, rfl⟩ := mem_bang hjo
      have := take_posI ((h k hk).2.2.2.1 i hi ⟨hm, h0, hlt, hij⟩)
      rw [posI_at hn hk]; omega
theorem expl_seq {val : SlH → ByteArray} {l : List GCall} {os : List Nat} (h : Expl val l os) : SeqOk val l os := by
  intro k hk
  obtain ⟨e1, e2, e3⟩ := pre1_no hk h
  refine ⟨e1, e3, e2, fun j hj hb => ?_, h.rd k hk⟩
  have hjo := h.all j hj hb.1
  have hmk : os[k]! ∈ os := List.mem_of_getElem? (get_bang hk)
  have h1 := h.ord j os[k]! hj e1 hb.1 hb.2.1 hb.2.2.1 hmk
  rw [posI_at h.nd hk] at h1
  refine posI_take hjo ?_
  rcases Int.lt_or_le (posI os j) (k : Int) with q | q
  · exact q
  · exfalso
    obtain ⟨m, hm, rfl⟩ := mem_bang hjo
    rw [posI_at h.nd hm] at h1 q
    have : m = k := by omega
    subst this
    exact hb.2.2.2 rfl
theorem path_expl {val : SlH → ByteArray} {l : List GCall} {p : List Nat} (h : PathA val l [] p) : Expl val l p := by
  obtain ⟨h1, h2⟩ := path_seq (val := val) (l := l) (pre := []) (fun k hk => by simp at hk) h
  exact seq_expl h1 h2
theorem expl_path {val : SlH → ByteArray} {l : List GCall} {os : List Nat} (h : Expl val l os) : ∃ p, PathA val l [] p := by
  have := seq_path (expl_seq h) h.all os.length (Nat.le_refl _)
  rwa [Nat.sub_self] at this
theorem simC_self {val val' : SlH → ByteArray} {l : List GCall} {vs : List ByteArray} (h : ∀ i, i < l.length → val l[i]!.Value = vs[i]!) (h' : ∀ i, i < l.length → val' l[i]!.Value = vs[i]!) : SimC val l val' l :=
  ⟨rfl, fun _ _ => rfl, fun _ _ => rfl, fun _ _ => rfl, fun _ _ => rfl, fun _ _ => rfl, fun i j hi hj => by rw [h i hi, h j hj, h' i hi, h' j hj]⟩
end Go.Proofs.Ythdkbbpiaeaojaa.K
