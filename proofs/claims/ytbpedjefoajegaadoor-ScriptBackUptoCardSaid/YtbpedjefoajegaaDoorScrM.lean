/- Steps in memory. -/
import Derived.Test.YtbpedjefoajegaaDoorScrT
import Derived.Test.YtbpedjefoajegaaDoorCoreQ
import Derived.Test.YtbpedjefoajegaaDoorCoreY
namespace Go.Proofs.YtbpedjefoajegaaDoor.K
open Go Go.RowKit
set_option linter.unusedVariables false
instance : Inhabited StepP := ⟨⟨0, 0, 0, ⟨#[]⟩, ⟨#[]⟩, []⟩⟩
abbrev i64c : Int → List Go.Value := fun y => [.int .i64 y]
theorem rd_lt {w : World} {a : Option Addr} {xs : List Value} (h : Rd w a xs) (hn : 0 < xs.length) : (adr a).block < w.heap.size := by
  have h1 := h 0 xs[0] (by simp)
  have h2 := Lib.lt_of_cell h1
  have hblk : ((adr a).add 0).block = (adr a).block := by unfold Addr.add; split <;> rfl
  rwa [hblk] at h2
/-- A step that lies so: its lists in blocks of F. -/
structure StR (w : World) (F : Nat → Prop) (s : GStep) (x : StepP) : Prop where
  kind : s.Kind = x.Kind
  a : s.A = x.A
  b : s.B = x.B
  key : s.Key = x.Key
  vF : 0 < s.Value.n → F (adr s.Value.a).block
  vn : s.Value.n = x.Value.size
  vr : SlR w s.Value.a s.Value.n ((bytesI x.Value).flatMap u8c)
  lF : 0 < s.L.n → F (adr s.L.a).block
  ln : s.L.n = x.L.length
  lr : SlR w s.L.a s.L.n (x.L.flatMap i64c)
theorem StR.vv {w : World} {F : Nat → Prop} {s : GStep} {x : StepP} (h : StR w F s x) : VB w s.Value ∧ valAt w s.Value = x.Value := by
  have := VB.mk h.vr (by rw [bytesI_len, h.vn])
  rwa [strOf_bytes] at this
theorem StR.vb {w : World} {F : Nat → Prop} {s : GStep} {x : StepP} (h : StR w F s x) : VB w s.Value := h.vv.1
theorem StR.val {w : World} {F : Nat → Prop} {s : GStep} {x : StepP} (h : StR w F s x) : valAt w s.Value = x.Value := h.vv.2
def Tr : Nat → Prop := fun _ => True
section
variable {w w' : World} {F : Nat → Prop} {s : GStep} {x : StepP}
theorem slr_keep {a : Option Addr} {n : Nat} {f : Int → List Value} {l : List Int} (h : SlR w a n (l.flatMap f)) (hn : n = l.length) (hf : 0 < n → w'.heap[(adr a).block]? = w.heap[(adr a).block]?) : SlR w' a n (l.flatMap f) := by
  refine ⟨?_, h.some⟩
  rcases Nat.eq_zero_or_pos n with h0 | h0
  · have : l = [] := List.eq_nil_of_length_eq_zero (by omega)
    rw [this]
    intro j u hu
    simp at hu
  · exact h.rd.keep fun _ => hf h0
theorem StR.keep (h : StR w F s x) (hf : ∀ b, F b → w'.heap[b]? = w.heap[b]?) : StR w' F s x :=
  ⟨h.kind, h.a, h.b, h.key, h.vF, h.vn, slr_keep h.vr (by rw [bytesI_len, h.vn]) fun h0 => hf _ (h.vF h0), h.lF, h.ln, slr_keep h.lr h.ln fun h0 => hf _ (h.lF h0)⟩
theorem StR.fram (h : StR w F s x) (hf : Fram Non w w') : StR w' F s x := ⟨h.kind, h.a, h.b, h.key, h.vF, h.vn, SlR.fram h.vr hf, h.lF, h.ln, SlR.fram h.lr hf⟩
theorem StR.wide {F' : Nat → Prop} (h : StR w F s x) (hF : ∀ k, F k → F' k) : StR w F' s x := ⟨h.kind, h.a, h.b, h.key, fun q => hF _ (h.vF q), h.vn, h.vr, fun q => hF _ (h.lF q), h.ln, h.lr⟩
theorem strOf_len : ∀ l : List Int, (strOf l).size = l.length := by
  intro l
  unfold strOf
  suffices h : ∀ (l : List Int) (b : ByteArray), (l.foldl (fun r n => r.push (UInt8.ofNat n.toNat)) b).size = b.size + l.length by simpa using h l ByteArray.empty
  intro l
  induction l with
  | nil => simp
  | cons y l ih => intro b; rw [List.foldl_cons, ih]; simp [ByteArray.size_push]; omega
end
/-- Steps that lie so. -/
def StL (w : World) (F : Nat → Prop) (cl : List GStep) (xs : List StepP) : Prop := cl.length = xs.length ∧ ∀ i, i < cl.length → StR w F cl[i]! xs[i]!
theorem StL.fram {w w' : World} {F : Nat → Prop} {cl : List GStep} {xs : List StepP} (h : StL w F cl xs) (hf : Fram Non w w') : StL w' F cl xs := ⟨h.1, fun i hi => (h.2 i hi).fram hf⟩
theorem StL.tr {w : World} {F : Nat → Prop} {cl : List GStep} {xs : List StepP} (h : StL w F cl xs) : StL w Tr cl xs := ⟨h.1, fun i hi => (h.2 i hi).wide fun _ _ => trivial⟩
def Res.sv (F : Nat → Prop) (cl : List GStep) (xs : List StepP) : Res :=
  ⟨F, fun w => StL w F cl xs, fun h hw => ⟨hw.1, fun i hi => (hw.2 i hi).keep h⟩⟩
theorem slr_nil0 (w : World) : SlR w none 0 ((bytesI ⟨#[]⟩).flatMap u8c) := ⟨fun j u hu => by simp [bytesI] at hu, fun q => absurd q (by decide)⟩
theorem apS {α : Type} [Inhabited α] {l : List α} {x : α} {i : Nat} (h : i < l.length + 1) : (l ++ [x])[i]! = if i < l.length then l[i]! else x := by
  rw [List.getElem!_eq_getElem?_getD, List.getElem!_eq_getElem?_getD, List.getElem?_append]
  by_cases h1 : i < l.length
  · simp [h1]
  · obtain rfl : i = l.length := by omega
    simp
section
variable {w w0 : World} {M : Nat → Prop} {L : List Res} {F G : Nat → Prop} {cl : List GStep} {xs : List StepP} {s : GStep} {x : StepP}
theorem Hp.svNil (h : Hp w0 M L w) : Hp w0 M (Res.sv (fun _ => False) [] [] :: L) w :=
  h.new (Fram.refl _ _) _ ⟨rfl, fun i hi => by simp at hi⟩ fun b hb => by cases hb
/-- One more step, with lists of its own. -/
theorem Hp.svPush (h : Hp w0 M (Res.sv G [s] [x] :: Res.sv F cl xs :: L) w) : Hp w0 M (Res.sv (fun k => F k ∨ G k) (cl ++ [s]) (xs ++ [x]) :: L) w := by
  have hap := h.apart
  rw [List.pairwise_cons, List.pairwise_cons] at hap
  obtain ⟨h1, h2, h3⟩ := hap
  have hb : (Res.sv G [s] [x]).holds w := h.holds _ (by simp)
  have hv : (Res.sv F cl xs).holds w := h.holds (Res.sv F cl xs) (by simp)
  obtain ⟨v1, v2⟩ := hv
  have hbs := hb.2 0 (by simp)
  refine ⟨h.fr, ?_, ?_, ?_⟩
  · intro r hr
    rcases List.mem_cons.1 hr with rfl | hr
    · refine ⟨by simp [v1], fun i hi => ?_⟩
      have hi' : i < cl.length + 1 := by simpa using hi
      rw [apS hi', apS (by omega), ← v1]
      by_cases hlt : i < cl.length
      · rw [if_pos hlt, if_pos hlt]
        exact (v2 i hlt).wide fun _ q => .inl q
      · rw [if_neg hlt, if_neg hlt]
        exact hbs.wide fun _ q => .inr q
    · exact h.holds r (by simp [hr])
  · intro r hr k hk
    rcases List.mem_cons.1 hr with rfl | hr
    · rcases hk with hk | hk
      · exact h.range (Res.sv F cl xs) (by simp) k hk
      · exact h.range (Res.sv G [s] [x]) (by simp) k hk
    · exact h.range r (by simp [hr]) k hk
  · rw [List.pairwise_cons]
    refine ⟨fun r hr k hk hk2 => ?_, h3⟩
    rcases hk with hk | hk
    · exact h2 r hr k hk hk2
    · exact h1 r (by simp [hr]) k hk hk2
/-- A step out of its parts: bytes of its own, a list of its own. -/
theorem Hp.svMake {VF : Nat → Prop} {E : TypeId} {R : Res} (s : GStep) (x : StepP) (hk : s.Kind = x.Kind) (ha : s.A = x.A) (hb : s.B = x.B) (hy : s.Key = x.Key)
    (hR : R.foot = VF) (hV : ∀ w, R.holds w → (0 < s.Value.n → VF (adr s.Value.a).block) ∧ s.Value.n = x.Value.size ∧ SlR w s.Value.a s.Value.n ((bytesI x.Value).flatMap u8c))
    (h : Hp w0 M (R :: Res.own E 1 s.L.v s.L.n (x.L.flatMap i64c) :: L) w) :
    Hp w0 M (Res.sv (fun k => R.foot k ∨ s.L.v.ownBlock = some k) [s] [x] :: L) w := by
  have hap := h.apart
  rw [List.pairwise_cons, List.pairwise_cons] at hap
  obtain ⟨h1, h2, h3⟩ := hap
  have hr1 : R.holds w := h.holds _ (by simp)
  have hr2 : (Res.own E 1 s.L.v s.L.n (x.L.flatMap i64c)).holds w := h.holds (Res.own E 1 s.L.v s.L.n (x.L.flatMap i64c)) (by simp)
  obtain ⟨v1, v2, v3⟩ := hV w hr1
  refine ⟨h.fr, ?_, ?_, ?_⟩
  · intro r hr
    rcases List.mem_cons.1 hr with rfl | hr
    · refine ⟨rfl, fun i hi => ?_⟩
      obtain rfl : i = 0 := by simpa using hi
      refine ⟨hk, ha, hb, hy, fun q => .inl (by rw [hR]; exact v1 q), v2, v3, fun q => .inr ?_, ?_, SlR.own hr2⟩
      · rcases hr2.2 with ⟨q1, q2⟩ | ⟨g, cap, cur, q1, _⟩
        · have : s.L.n = 0 := by simp [SlH.v] at q1; exact q1.2.1
          show s.L.v.ownBlock = some _
          have hq : 0 < s.L.n := q
          omega
        · have : s.L.a = some ⟨g, 0, none⟩ := by simp [SlH.v] at q1; exact q1.1
          show s.L.v.ownBlock = some (adr s.L.a).block
          rw [q1, this]; rfl
      · have := own_flat (f := i64c) (sz := 1) (fun _ => rfl) (by decide) hr2
        exact this.symm
    · exact h.holds r (by simp [hr])
  · intro r hr k hk
    rcases List.mem_cons.1 hr with rfl | hr
    · rcases hk with hk | hk
      · exact h.range R (by simp) k hk
      · exact h.range (Res.own E 1 s.L.v s.L.n (x.L.flatMap i64c)) (by simp) k hk
    · exact h.range r (by simp [hr]) k hk
  · rw [List.pairwise_cons]
    refine ⟨fun r hr k hk hk2 => ?_, h3⟩
    rcases hk with hk | hk
    · exact h1 r (by simp [hr]) k hk hk2
    · exact h2 r hr k hk hk2
/-- Without a value. -/
theorem Hp.svMake0 {E : TypeId} (s : GStep) (x : StepP) (hk : s.Kind = x.Kind) (ha : s.A = x.A) (hb : s.B = x.B) (hy : s.Key = x.Key) (hv : s.Value = ⟨none, 0, 0⟩) (hx : x.Value = ⟨#[]⟩)
    (h : Hp w0 M (Res.own E 1 s.L.v s.L.n (x.L.flatMap i64c) :: L) w) : Hp w0 M (Res.sv (fun k => False ∨ s.L.v.ownBlock = some k) [s] [x] :: L) w :=
  Hp.svMake (VF := fun _ => False) (R := Res.sv (fun _ => False) [] []) s x hk ha hb hy rfl (fun w _ => ⟨fun q => by rw [hv] at q; exact absurd q (by decide), by rw [hv, hx]; rfl, by rw [hv, hx]; exact slr_nil0 w⟩) h.svNil
end
theorem StR.of {w : World} {s : GStep} {x : StepP} (hk : s.Kind = x.Kind) (ha : s.A = x.A) (hb : s.B = x.B) (hy : s.Key = x.Key) (hv : s.Value.n = x.Value.size ∧ SlR w s.Value.a s.Value.n ((bytesI x.Value).flatMap u8c)) (hn : s.L.n = x.L.length) (hl : SlR w s.L.a s.L.n (x.L.flatMap i64c)) : StR w Tr s x :=
  ⟨hk, ha, hb, hy, fun _ => trivial, hv.1, hv.2, fun _ => trivial, hn, hl⟩
/-- A step with a value that was made of a text. -/
theorem Hp.svMakeV {w w0 : World} {M : Nat → Prop} {L : List Res} {E : TypeId} {b c : Nat} {v : ByteArray} (s : GStep) (x : StepP) (hk : s.Kind = x.Kind) (ha : s.A = x.A) (hb : s.B = x.B) (hy : s.Key = x.Key) (hv : s.Value = ⟨some ⟨b, 0, none⟩, v.size, c⟩) (hx : x.Value = v)
    (h : Hp w0 M (Res.bs b v :: Res.own E 1 s.L.v s.L.n (x.L.flatMap i64c) :: L) w) : Hp w0 M (Res.sv (fun k => k = b ∨ s.L.v.ownBlock = some k) [s] [x] :: L) w :=
  Hp.svMake (VF := fun k => k = b) (R := Res.bs b v) s x hk ha hb hy rfl (fun w hR => ⟨fun _ => by rw [hv]; rfl, by rw [hv, hx], by rw [hv, hx]; exact SlR.bs hR⟩) h
/-- A step with a value of its own. -/
theorem Hp.svMakeO {w w0 : World} {M : Nat → Prop} {L : List Res} {E U : TypeId} (s : GStep) (x : StepP) (hk : s.Kind = x.Kind) (ha : s.A = x.A) (hb : s.B = x.B) (hy : s.Key = x.Key)
    (h : Hp w0 M (Res.own U 1 s.Value.v s.Value.n ((bytesI x.Value).flatMap u8c) :: Res.own E 1 s.L.v s.L.n (x.L.flatMap i64c) :: L) w) : Hp w0 M (Res.sv (fun k => s.Value.v.ownBlock = some k ∨ s.L.v.ownBlock = some k) [s] [x] :: L) w :=
  Hp.svMake (VF := fun k => s.Value.v.ownBlock = some k) (R := Res.own U 1 s.Value.v s.Value.n ((bytesI x.Value).flatMap u8c)) s x hk ha hb hy rfl (fun w hR => ⟨fun q => by
    rcases hR.2 with ⟨q1, q2⟩ | ⟨g, cap, cur, q1, _⟩
    · omega
    · have : s.Value.a = some ⟨g, 0, none⟩ := by simp [SlH.v] at q1; exact q1.1
      rw [q1, this]; rfl, by
    have := own_flat (f := u8c) (sz := 1) (fun _ => rfl) (by decide) hR
    rw [← this, bytesI_len], SlR.own hR⟩) h
theorem Hp.ofFr {w w0 : World} (h : Fram Non w0 w) : Hp w0 Non [] w := ⟨h, by simp, by simp, List.Pairwise.nil⟩
/-- A row that has just been laid is a list of one's own. -/
theorem Hp.rowOwnN {w w0 : World} {M : Nat → Prop} {L : List Res} {b E n sz : Nat} {xs : List Value} (h : Hp w0 M (Res.row b xs E :: L) w) (hn : xs.length = n * sz) (hm : n ≤ maxLen) : Hp w0 M (Res.own E sz (.slice (some ⟨b, 0, none⟩) n n) n xs :: L) w := by
  refine h.turn0 _ ?_ ?_
  · intro hr
    exact ⟨hn, .inr ⟨b, n, xs.toArray, rfl, Nat.zero_le _, hr, Nat.le_refl _, hm, by simp [hn], by rw [← hn]; simp⟩⟩
  · intro k hk
    have : some b = some k := hk
    exact (Option.some.inj this).symm
end Go.Proofs.YtbpedjefoajegaaDoor.K
