/- A register's own order explains its calls. -/
import Derived.Test.YthdkbbpiaeaojaaLinG
import Derived.Test.YthdkbbpiaeaojaaLawV
namespace Go.Proofs.Ythdkbbpiaeaojaa.K
open Go Go.RowKit

theorem abcV_ne (z : Int) : abcV z ≠ ⟨#[]⟩ := by
  have h := modI_bd z (k := 3) (by omega)
  unfold abcV
  have : (modI z 3).toNat = 0 ∨ (modI z 3).toNat = 1 ∨ (modI z 3).toNat = 2 := by omega
  rcases this with h | h | h <;> (rw [h]; decide)
def inT (ts : List Gsherdlaw20_Turn) (i : Nat) : Prop := (ts[i]!.Put = true ∧ ¬ ts[i]!.Never = true) ∨ (¬ ts[i]!.Put = true ∧ 0 ≤ toT i ts[i]!)
instance (ts : List Gsherdlaw20_Turn) (i : Nat) : Decidable (inT ts i) := by unfold inT; exact inferInstance
def osT (ts : List Gsherdlaw20_Turn) : Nat → List Nat
  | 0 => []
  | k + 1 => if inT ts k then osT ts k ++ [k] else osT ts k
theorem osT_mem {ts : List Gsherdlaw20_Turn} {x : Nat} : ∀ {k : Nat}, x ∈ osT ts k ↔ x < k ∧ inT ts x
  | 0 => by simp [osT]
  | k + 1 => by
    simp only [osT]
    split
    · rename_i hk
      rw [List.mem_append, osT_mem (k := k), List.mem_singleton]
      constructor
      · rintro (⟨a, b⟩ | a)
        · exact ⟨by omega, b⟩
        · subst a; exact ⟨by omega, hk⟩
      · rintro ⟨a, b⟩
        by_cases hx : x = k
        · exact .inr hx
        · exact .inl ⟨by omega, b⟩
    · rename_i hk
      rw [osT_mem (k := k)]
      constructor
      · rintro ⟨a, b⟩; exact ⟨by omega, b⟩
      · rintro ⟨a, b⟩
        by_cases hx : x = k
        · subst hx; exact absurd b hk
        · exact ⟨by omega, b⟩
section
variable {ts : List Gsherdlaw20_Turn} {cl : List GCall} {vs : List ByteArray} {k : Nat}
theorem liv_at (h : livB ts cl vs k) {i : Nat} (hi : i < k) : cl[i]!.From = frT i ts[i]! ∧
    ((ts[i]!.Put = true ∧ ts[i]!.Never = true ∧ cl[i]!.Put = true ∧ cl[i]!.Open = true ∧ cl[i]!.To = -1 ∧ vs[i]! = neverB) ∨
     (ts[i]!.Put = true ∧ ¬ ts[i]!.Never = true ∧ cl[i]!.Put = true ∧ cl[i]!.To = toT i ts[i]! ∧ vs[i]! = abcV ts[i]!.Value) ∨
     (¬ ts[i]!.Put = true ∧ ¬ cl[i]!.Put = true ∧ cl[i]!.To = toT i ts[i]! ∧ cl[i]!.Status = (if regV ts i = ⟨#[]⟩ then 76 else 0) ∧ vs[i]! = regV ts i)) := by
  obtain ⟨h1, h2⟩ := h.2.2 i hi
  unfold livC at h1 h2
  unfold coreC at h1
  split at h1
  · rename_i hc
    rw [if_pos hc] at h2
    simp only [Prod.mk.injEq] at h1
    exact ⟨h1.2.2.1, .inl ⟨hc.1, hc.2, h1.1, h1.2.1, h1.2.2.2.1, h2⟩⟩
  · rename_i hc
    rw [if_neg hc] at h2
    split at h1
    · rename_i hp
      rw [if_pos hp] at h2
      simp only [Prod.mk.injEq] at h1
      exact ⟨h1.2.2.1, .inr (.inl ⟨hp, fun q => hc ⟨hp, q⟩, h1.1, h1.2.2.2.1, h2⟩)⟩
    · rename_i hp
      rw [if_neg hp] at h2
      simp only [Prod.mk.injEq] at h1
      exact ⟨h1.2.2.1, .inr (.inr ⟨hp, by rw [h1.1]; simp, h1.2.2.2.1, h1.2.2.2.2, h2⟩)⟩
theorem toT_bd (i : Nat) (t : Gsherdlaw20_Turn) : toT i t = -1 ∨ atT i < toT i t := by
  unfold toT
  have := modI_bd t.Late (k := 500) (by omega)
  split
  · exact .inr (by omega)
  · exact .inl rfl
theorem frT_bd (i : Nat) (t : Gsherdlaw20_Turn) : 0 ≤ frT i t ∧ frT i t ≤ atT i := by
  unfold frT atT
  have := modI_bd t.Early (k := 500) (by omega)
  constructor <;> omega
theorem liv_ok (h : livB ts cl vs k) {i : Nat} (hi : i < k) : okArg cl[i]! := by
  obtain ⟨a, b⟩ := liv_at h hi
  have h1 := frT_bd i ts[i]!
  have h2 := toT_bd i ts[i]!
  unfold okArg
  rcases b with ⟨_, _, _, _, c, _⟩ | ⟨_, _, _, c, _⟩ | ⟨_, _, c, _⟩ <;> (rw [a, c]; omega)
theorem liv_must (h : livB ts cl vs k) {i : Nat} (hi : i < k) (hm : mustC cl[i]!) : inT ts i := by
  obtain ⟨a, b⟩ := liv_at h hi
  unfold inT
  rcases b with ⟨p, n, c, d, e, f⟩ | ⟨p, n, c, e, f⟩ | ⟨p, c, e, f⟩
  · exfalso
    rcases hm with ⟨_, q⟩ | ⟨q, _⟩
    · exact q d
    · exact q c
  · exact .inl ⟨p, n⟩
  · rcases hm with ⟨q, _⟩ | ⟨_, q, _⟩
    · exact absurd q c
    · exact .inr ⟨p, by omega⟩
theorem liv_part (h : livB ts cl vs k) {i : Nat} (hi : i < k) (hm : inT ts i) : partC cl[i]! := by
  obtain ⟨a, b⟩ := liv_at h hi
  rcases b with ⟨p, n, c, d, e, f⟩ | ⟨p, n, c, e, f⟩ | ⟨p, c, e, f, g⟩
  · exact .inr c
  · exact .inr c
  · refine .inl (.inr ⟨c, ?_, ?_⟩)
    · rcases hm with q | q
      · exact absurd q.1 p
      · omega
    · rw [f]; split <;> simp
variable {val : SlH → ByteArray}
theorem liv_seq (h : livB ts cl vs k) (hv : ∀ i, i < k → val cl[i]!.Value = vs[i]!) : ∀ j, j ≤ k →
    SeqOk val cl (osT ts j) ∧ ((lastOf cl (osT ts j) = -1 ∧ regV ts j = ⟨#[]⟩) ∨ ∃ m, m < j ∧ lastOf cl (osT ts j) = (m : Int) ∧ val cl[m]!.Value = regV ts j ∧ ¬ regV ts j = ⟨#[]⟩)
  | 0, _ => ⟨fun i hi => by simp [osT] at hi, .inl ⟨rfl, rfl⟩⟩
  | j + 1, hj => by
    obtain ⟨h1, h2⟩ := liv_seq h hv j (by omega)
    obtain ⟨a, b⟩ := liv_at h (i := j) (by omega)
    have hlen := h.1
    simp only [osT, regV]
    by_cases hin : inT ts j
    · rw [if_pos hin]
      have hmay : mayA val cl (osT ts j) j := by
        refine ⟨by omega, liv_part h (by omega) hin, fun q => by have := (osT_mem.1 q).1; omega, fun i hi hb => osT_mem.2 ⟨?_, liv_must h (by omega) hb.1⟩, ?_⟩
        · obtain ⟨a2, b2⟩ := liv_at h (i := i) (by omega)
          have f1 := frT_bd j ts[j]!
          have f2 := toT_bd i ts[i]!
          obtain ⟨g1, g2, g3, g4⟩ := hb
          rw [a] at g3
          have : cl[i]!.To = -1 ∨ cl[i]!.To = toT i ts[i]! := by
            rcases b2 with ⟨_, _, _, _, c, _⟩ | ⟨_, _, _, c, _⟩ | ⟨_, _, c, _⟩
            · exact .inl c
            · exact .inr c
            · exact .inr c
          unfold atT at f1 f2
          omega
        · rcases b with ⟨p, n, c, d, e, f⟩ | ⟨p, n, c, e, f⟩ | ⟨p, c, e, f, g⟩
          · exact .inl c
          · exact .inl c
          · refine .inr ?_
            unfold explP
            rcases h2 with ⟨i1, i2⟩ | ⟨m, i1, i2, i3, i4⟩
            · rw [f, if_pos (by rw [if_pos i2]), i1]; omega
            · rw [f, if_neg (by rw [if_neg i4]; omega), i2]
              refine ⟨by omega, cl[m]!, ?_, ?_⟩
              · rw [show ((m : Int).toNat) = m from by omega]; exact get_bang (by omega)
              · rw [i3, hv j (by omega), g]
      refine ⟨seq_snoc h1 hmay, ?_⟩
      rw [lastOf_snoc]
      rcases b with ⟨p, n, c, d, e, f⟩ | ⟨p, n, c, e, f⟩ | ⟨p, c, e, f, g⟩
      · exfalso
        rcases hin with q | q
        · exact q.2 n
        · exact q.1 p
      · rw [if_pos c, if_pos ⟨p, n⟩]
        exact .inr ⟨j, by omega, rfl, by rw [hv j (by omega), f], abcV_ne _⟩
      · rw [if_neg c, if_neg (fun q => p q.1)]
        rcases h2 with q | ⟨m, i1, i⟩
        · exact .inl q
        · exact .inr ⟨m, by omega, i⟩
    · rw [if_neg hin, if_neg (fun q => hin (.inl q))]
      refine ⟨h1, ?_⟩
      rcases h2 with q | ⟨m, i1, i⟩
      · exact .inl q
      · exact .inr ⟨m, by omega, i⟩
theorem cntN_le3 (l : List GCall) : ∀ k, cntN l k ≤ k
  | 0 => Nat.le_refl _
  | k + 1 => by have := cntN_le3 l k; simp only [cntN]; split <;> omega
/-- Whatever a register does is explained. -/
theorem liv_one (h : livB ts cl vs k) (hk : k ≤ 24) (hv : ∀ i, i < k → val cl[i]!.Value = vs[i]!) {xs : List Nat} {ok : Bool} {e : Int} (ho : oneA val cl xs ok e) : e = 0 ∧ ok = true ∧ PathA val cl [] xs := by
  have hlen := h.1
  obtain ⟨h1, _⟩ := liv_seq h hv k (Nat.le_refl _)
  have hd : doneA cl (osT ts k) := fun i hi hm => osT_mem.2 ⟨by omega, liv_must h (by omega) hm⟩
  obtain ⟨p, hp⟩ := expl_path (seq_expl h1 hd)
  rcases ho with ⟨⟨j, a, b⟩, _⟩ | ⟨_, b, _⟩ | ⟨_, _, e0, ⟨o, b⟩ | ⟨_, _, b⟩⟩
  · exact absurd (liv_ok h (by omega)) b
  · have := cntN_le3 cl cl.length; omega
  · exact ⟨e0, o, b.1⟩
  · exact absurd hp (b p)
end
theorem path_keep {val val' : SlH → ByteArray} {cl : List GCall} {vs : List ByteArray} {xs : List Nat} (h : ∀ i, i < cl.length → val cl[i]!.Value = vs[i]!) (h' : ∀ i, i < cl.length → val' cl[i]!.Value = vs[i]!) (hp : PathA val cl [] xs) : PathA val' cl [] xs := ((simC_self h h').path (by simp)).1 hp
end Go.Proofs.Ythdkbbpiaeaojaa.K
