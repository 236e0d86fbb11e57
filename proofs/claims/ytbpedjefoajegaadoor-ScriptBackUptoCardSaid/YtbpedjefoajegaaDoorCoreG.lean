/- Ranges over texts: an iterator in a block of its own. -/
import Derived.Test.YtbpedjefoajegaaDoorStr
import Derived.Lib.OthersKept
namespace Go.Proofs.YtbpedjefoajegaaDoor.K
open Go Go.RowKit
set_option linter.unusedVariables false
/-- A rune that stands in a text: one byte below 128, or bytes of 128 and more. -/
structure RuneAt (s : ByteArray) (pos : Nat) (c : Int) (wd : Nat) : Prop where
  one : 1 ≤ wd
  le : pos + wd ≤ s.size
  rng : 0 ≤ c ∧ c ≤ 2147483647
  low : c < 128 → wd = 1 ∧ byteAt s (pos : Nat) = c
  high : 128 ≤ c → ∀ j, j < wd → 128 ≤ byteAt s ((pos + j : Nat) : Int)
theorem byteAt_get {s : ByteArray} {i : Nat} : byteAt s ((i : Nat) : Int) = ((s.get! i).toNat : Int) := by
  unfold byteAt
  rw [show ((i : Nat) : Int).toNat = i from by omega]
  congr 2
  show _ = s.data[i]!
  rw [Array.getElem!_eq_getD, Array.getD_eq_getD_getElem?, Array.getElem?_toList]; rfl
theorem decode_rune (s : ByteArray) (pos : Nat) (h : pos < s.size) : RuneAt s pos ((Utf8.decode s pos).1 : Nat) (Utf8.decode s pos).2 := by
  have hle := decode_le s pos
  have g0 : byteAt s ((pos : Nat) : Int) = ((s.get! (pos + 0)).toNat : Int) := byteAt_get
  have hb : ∀ k, (s.get! (pos + k)).toNat < 256 := fun k => (s.get! (pos + k)).toNat_lt
  have h0 := hb 0
  have one : 128 ≤ (s.get! (pos + 0)).toNat → RuneAt s pos ((65533 : Nat) : Int) 1 := fun hq => by
    refine ⟨by omega, by omega, by omega, by omega, fun _ j hj => ?_⟩
    obtain rfl : j = 0 := by omega
    rw [show pos + 0 = pos from rfl, g0]; omega
  have hc : ∀ k, ((decide (pos + k < s.size) && (s.get! (pos + k)).toNat / 64 == 2) = true) → pos + k < s.size ∧ 128 ≤ byteAt s ((pos + k : Nat) : Int) := fun k hk => by
    simp only [Bool.and_eq_true, decide_eq_true_eq, beq_iff_eq] at hk
    rw [byteAt_get]
    exact ⟨hk.1, by omega⟩
  simp only [Utf8.decode] at hle ⊢
  split
  · rename_i hlt
    exact ⟨by omega, by omega, by omega, fun _ => ⟨rfl, g0⟩, fun q => by omega⟩
  · rename_i hge
    have hge' : 128 ≤ (s.get! (pos + 0)).toNat := by omega
    have z0 : 128 ≤ byteAt s ((pos : Nat) : Int) := by rw [g0]; omega
    split
    · rename_i hq
      simp only [Bool.and_eq_true] at hq
      obtain ⟨c1, z1⟩ := hc 1 (by simpa using hq.2)
      split
      · rename_i hm
        refine ⟨by omega, by omega, ⟨by omega, ?_⟩, fun q => by omega, fun _ j hj => ?_⟩
        · have := hb 1; omega
        · have : j = 0 ∨ j = 1 := by omega
          rcases this with rfl | rfl
          · exact z0
          · exact z1
      · exact one hge'
    · split
      · rename_i hq
        simp only [Bool.and_eq_true] at hq
        obtain ⟨c1, z1⟩ := hc 1 (by simpa using hq.1.2)
        obtain ⟨c2, z2⟩ := hc 2 (by simpa using hq.2)
        split
        · rename_i hm
          simp only [Bool.and_eq_true, decide_eq_true_eq] at hm
          refine ⟨by omega, by omega, ⟨by omega, ?_⟩, fun q => by omega, fun _ j hj => ?_⟩
          · have := hb 1; have := hb 2; omega
          · have : j = 0 ∨ j = 1 ∨ j = 2 := by omega
            rcases this with rfl | rfl | rfl
            · exact z0
            · exact z1
            · exact z2
        · exact one hge'
      · split
        · rename_i hq
          simp only [Bool.and_eq_true] at hq
          obtain ⟨c1, z1⟩ := hc 1 (by simpa using hq.1.1.2)
          obtain ⟨c2, z2⟩ := hc 2 (by simpa using hq.1.2)
          obtain ⟨c3, z3⟩ := hc 3 (by simpa using hq.2)
          split
          · rename_i hm
            simp only [Bool.and_eq_true, decide_eq_true_eq] at hm
            refine ⟨by omega, by omega, ⟨by omega, ?_⟩, fun q => by omega, fun _ j hj => ?_⟩
            · have := hb 1; have := hb 2; have := hb 3; omega
            · have : j = 0 ∨ j = 1 ∨ j = 2 ∨ j = 3 := by omega
              rcases this with rfl | rfl | rfl | rfl
              · exact z0
              · exact z1
              · exact z2
              · exact z3
          · exact one hge'
        · exact one hge'
def Res.sit (b : Nat) (s : ByteArray) (pos : Nat) : Res := Res.obj b (.stringIter s pos)
section
variable {P : Program} {N : Nat} {ops : Array Oper} {Q : Post} {next : Env → World → Prop} {e : Env} {w w0 : World} {M : Nat → Prop} {B : List Res} {ty : TypeId} {pos : String} {af : Array Edge} {d : Tmp}
theorem opStep.rangeS {T : TypeId} {x : Operand} {s : ByteArray} (hm : P.underlying T = some .string) (hp : Hp w0 M B w) (hx : ev e x = .string s)
    (h : ∀ r w', Hp w0 M (Res.sit r s 0 :: B) w' → next (upd e d (.pointer (some ⟨r, 0, none⟩))) w') :
    opStep P N ops Q ⟨some d, .range T x, ty, pos, af, none⟩ next e w := by
  refine opStep.val (v := .pointer (some ⟨w.heap.size, 0, none⟩)) (w' := w.iter s 0) rfl ?_ (h w.heap.size _ (hp.alloc _))
  simp [execOp, hx, run_range_string w T s hm]
theorem opStep.nextS {x : Operand} {r : Nat} {s : ByteArray} {p : Nat} (hp : Hp w0 M (Res.sit r s p :: B) w) (hx : ev e x = .pointer (some ⟨r, 0, none⟩))
    (h0 : ¬ p < s.size → next (upd e d (.tuple #[.bool false])) w)
    (h1 : ∀ (c : Int) (wd : Nat) w', p < s.size → RuneAt s p c wd → Hp w0 M (Res.sit r s (p + wd) :: B) w' → next (upd e d (.tuple #[.bool true, .int .i64 ((p : Nat) : Int), .int .i32 c])) w') :
    opStep P N ops Q ⟨some d, .next x true, ty, pos, af, none⟩ next e w := by
  have hk : w.heap[r]? = some (.stringIter s p) := Hp.get (A := []) hp
  by_cases hlt : p < s.size
  · refine opStep.val rfl (by simp [execOp, hx, Lib.run_next_any_at (P := P) w r s p ty hk hlt]) (h1 _ _ (w.iterAt r s (p + (Utf8.decode s p).2)) hlt (decode_rune s p hlt) ?_)
    refine Hp.mod (A := []) (w' := w.iterAt r s (p + (Utf8.decode s p).2)) hp ⟨rfl, rfl, rfl, Nat.le_of_eq (Lib.iterAt_size w r s _).symm, fun i hi hm => Lib.iterAt_other w r i s _ (fun q => hm q)⟩ _ (Lib.iterAt_heap w r s p _ hk) fun b hb => ⟨?_, .inl hb⟩
    rw [Lib.iterAt_size]
    exact Hp.lt (A := []) hp b hb
  · exact opStep.val rfl (by simp [execOp, hx, Lib.run_next_end_at (P := P) w r s p ty hk hlt]) (h0 hlt)
def arrInfo (P : Program) (t : TypeId) : Option (Nat × Nat) := match P.underlying t with
  | some (.array n e) => (P.info? e).map fun i => (n, i.size)
  | _ => none
/-- The whole of an array that has an address. -/
theorem opStep.sliceArr {t : TypeId} {x : Operand} {a : Addr} {n sz : Nat} (hT : arrInfo P t = some (n, sz)) (hx : ev e x = .pointer (some a)) (h : next (upd e d (.slice (some a) n n)) w) :
    opStep P N ops Q ⟨some d, .slice t x none none none, ty, pos, af, none⟩ next e w := by
  unfold arrInfo at hT
  split at hT
  · rename_i m el hu
    cases hi : P.info? el with
    | none => simp [hi] at hT
    | some i =>
      simp only [hi, Option.map_some, Option.some.injEq, Prod.mk.injEq] at hT
      obtain ⟨rfl, rfl⟩ := hT
      refine opStep.val rfl ?_ h
      simp [execOp, hx, Instr.sliceAt, run_underlying hu, Instr.sureAddr, Instr.sliceBounds, sizeOf, typeInfo, hi, Addr.add_zero']
  · cases hT
end
end Go.Proofs.YtbpedjefoajegaaDoor.K
