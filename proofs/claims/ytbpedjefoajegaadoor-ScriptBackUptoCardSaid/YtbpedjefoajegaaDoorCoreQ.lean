/- Many things in memory as one: taken out, put back, in any order. -/
import Derived.Test.YtbpedjefoajegaaDoorCoreU
namespace Go.Proofs.YtbpedjefoajegaaDoor.K
open Go Go.RowKit
section
variable {w w0 : World} {M : Nat → Prop} {L : List Res}
theorem Hp.allPerm {rs rs' : List Res} (hp : rs.Perm rs') (h : Hp w0 M (Res.all rs :: L) w) : Hp w0 M (Res.all rs' :: L) w := by
  refine Hp.turn (A := []) h (Res.all rs') ?_ ?_
  · rintro ⟨h1, h2⟩
    exact ⟨fun r hr => h1 r (hp.mem_iff.2 hr), (hp.pairwise_iff fun {x y} hxy b hb hb2 => hxy b hb2 hb).1 h2⟩
  · rintro b ⟨r, hr, hb⟩
    exact ⟨r, hp.mem_iff.2 hr, hb⟩
theorem Hp.allPop {r : Res} {rs : List Res} (h : Hp w0 M (Res.all (r :: rs) :: L) w) : Hp w0 M (r :: Res.all rs :: L) w := by
  have hap := h.apart
  rw [List.pairwise_cons] at hap
  obtain ⟨h1, h3⟩ := hap
  have hrs : (Res.all (r :: rs)).holds w := h.holds _ (by simp)
  obtain ⟨a1, a2⟩ := hrs
  rw [List.pairwise_cons] at a2
  refine ⟨h.fr, ?_, ?_, ?_⟩
  · intro s hs
    rcases List.mem_cons.1 hs with rfl | hs
    · exact a1 s (by simp)
    · rcases List.mem_cons.1 hs with rfl | hs
      · exact ⟨fun t ht => a1 t (by simp [ht]), a2.2⟩
      · exact h.holds s (by simp [hs])
  · intro s hs b hb
    rcases List.mem_cons.1 hs with rfl | hs
    · exact h.range (Res.all (s :: rs)) (by simp) b ⟨s, by simp, hb⟩
    · rcases List.mem_cons.1 hs with rfl | hs
      · obtain ⟨t, ht, hb⟩ := hb
        exact h.range (Res.all (r :: rs)) (by simp) b ⟨t, by simp [ht], hb⟩
      · exact h.range s (by simp [hs]) b hb
  · rw [List.pairwise_cons, List.pairwise_cons]
    refine ⟨fun s hs b hb hb2 => ?_, fun s hs b hb hb2 => ?_, h3⟩
    · rcases List.mem_cons.1 hs with rfl | hs
      · obtain ⟨t, ht, hb2⟩ := hb2
        exact a2.1 t ht b hb hb2
      · exact h1 s hs b ⟨r, by simp, hb⟩ hb2
    · obtain ⟨t, ht, hb⟩ := hb
      exact h1 s hs b ⟨t, by simp [ht], hb⟩ hb2
theorem Hp.allCons {r : Res} {rs : List Res} (h : Hp w0 M (r :: Res.all rs :: L) w) : Hp w0 M (Res.all (r :: rs) :: L) w :=
  h.allPush.allPerm (List.perm_append_singleton r rs)
end
theorem Hp.madeQ {w w0 w' : World} {M : Nat → Prop} {L L' : List Res} (h : Hp w0 M L w) (k : Hp w Non L' w') : Hp w0 M (L' ++ L) w' := by
  have h' := h.step k.fr
  refine ⟨h'.fr, ?_, ?_, ?_⟩
  · intro s hs
    rcases List.mem_append.1 hs with hs | hs
    · exact k.holds s hs
    · exact h'.holds s hs
  · intro s hs b hb
    rcases List.mem_append.1 hs with hs | hs
    · obtain ⟨q1, q2⟩ := k.range s hs b hb
      rcases q2 with q2 | q2
      · exact ⟨q1, .inl (Nat.le_trans h.fr.size q2)⟩
      · exact q2.elim
    · exact h'.range s hs b hb
  · rw [List.pairwise_append]
    refine ⟨k.apart, h.apart, fun r hr s hs b hb hb2 => ?_⟩
    have q1 := (h.range s hs b hb2).1
    obtain ⟨_, q2⟩ := k.range r hr b hb
    rcases q2 with q2 | q2
    · omega
    · exact q2.elim
theorem erase_perm {α : Type} [Inhabited α] : ∀ {l : List α} {i : Nat}, i < l.length → l.Perm (l[i]! :: l.eraseIdx i)
  | x :: l, 0, _ => by simp
  | x :: l, i + 1, h => by
    have h' : i < l.length := by simpa using h
    rw [show (x :: l)[i + 1]! = l[i]! from by simp, List.eraseIdx_cons_succ]
    exact ((erase_perm h').cons x).trans (List.Perm.swap _ _ _)
theorem set_perm {α : Type} [Inhabited α] {y : α} : ∀ {l : List α} {i : Nat}, i < l.length → (y :: l.eraseIdx i).Perm (l.set i y)
  | x :: l, 0, _ => by simp
  | x :: l, i + 1, h => by
    have h' : i < l.length := by simpa using h
    rw [List.eraseIdx_cons_succ, List.set_cons_succ]
    exact (List.Perm.swap _ _ _).trans ((set_perm h').cons x)
end Go.Proofs.YtbpedjefoajegaaDoor.K
