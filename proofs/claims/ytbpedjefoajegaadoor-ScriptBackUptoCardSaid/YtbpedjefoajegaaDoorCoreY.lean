/- A string's bytes as a slice. -/
import Derived.Test.YtbpedjefoajegaaDoorStr
import Derived.Test.YtbpedjefoajegaaDoorCoreU
import Derived.Lib.ConvBytes
namespace Go.Proofs.YtbpedjefoajegaaDoor.K
open Go Go.RowKit

def bytesI (s : ByteArray) : List Int := s.data.toList.map fun b => (b.toNat : Int)
theorem bytesI_len (s : ByteArray) : (bytesI s).length = s.size := by simp [bytesI]
theorem strOf_snoc (l : List Int) (x : Int) : strOf (l ++ [x]) = (strOf l).push (UInt8.ofNat x.toNat) := by simp [strOf]
theorem strOf_data (l : List UInt8) : strOf (l.map fun b => (b.toNat : Int)) = ⟨l.toArray⟩ := by
  suffices h : ∀ (l m : List UInt8), (l.map fun b => (b.toNat : Int)).foldl (fun r n => r.push (UInt8.ofNat n.toNat)) (⟨m.toArray⟩ : ByteArray) = ⟨(m ++ l).toArray⟩ by
    have := h l []
    rw [List.nil_append] at this
    exact this
  intro l
  induction l with
  | nil => intro m; simp
  | cons b l ih =>
    intro m
    rw [List.map_cons, List.foldl_cons]
    have : (⟨m.toArray⟩ : ByteArray).push (UInt8.ofNat ((b.toNat : Int)).toNat) = ⟨(m ++ [b]).toArray⟩ := by
      simp [ByteArray.push]
    rw [this, ih]
    simp
theorem strOf_bytes (s : ByteArray) : strOf (bytesI s) = s := by
  unfold bytesI
  rw [strOf_data]
/-- A row that begins with a string's bytes. -/
def Res.bs (b : Nat) (s : ByteArray) : Res :=
  ⟨fun k => k = b, fun w => ∃ (cs : Array Value) (t : TypeId) (m : Nat × Nat), w.heap[b]? = some (.cells cs t m) ∧ ∀ (j : Nat) (u : Value), ((bytesI s).flatMap u8c)[j]? = some u → cs[j]? = some u, by
    rintro w w' h ⟨cs, t, m, h1, h2⟩
    exact ⟨cs, t, m, (h _ rfl).trans h1, h2⟩⟩
theorem SlR.bs {w : World} {b : Nat} {s : ByteArray} (h : (Res.bs b s).holds w) : SlR w (Option.some ⟨b, 0, none⟩) s.size ((bytesI s).flatMap u8c) := by
  obtain ⟨cs, t, m, h1, h2⟩ := h
  refine ⟨fun j u hu => ?_, fun _ => rfl⟩
  show w.cell? ((⟨b, 0, none⟩ : Addr).add j) = Option.some u
  rw [add_mk, Nat.zero_add]
  simp [World.cell?, h1, h2 j u hu]
theorem VB.mk {w : World} {s : SlH} {ns : List Int} (h : SlR w s.a s.n (ns.flatMap u8c)) (hn : ns.length = s.n) : VB w s ∧ valAt w s = strOf ns := by
  have e := bytesAt_of h hn
  unfold VB valAt
  rw [e]
  exact ⟨h, rfl⟩
theorem VB.bsr {w : World} {b c : Nat} {s : ByteArray} (h : (Res.bs b s).holds w) : VB w ⟨some ⟨b, 0, none⟩, s.size, c⟩ ∧ valAt w ⟨some ⟨b, 0, none⟩, s.size, c⟩ = s := by
  have := VB.mk (s := ⟨some ⟨b, 0, none⟩, s.size, c⟩) (SlR.bs h) (bytesI_len s)
  rw [strOf_bytes] at this
  exact this
def convSB (P : Program) (src dst : TypeId) : Bool := match P.underlying src, P.underlying dst with
  | some .string, some (.slice e) => (match P.underlying e with | some (.int .u8) => true | _ => false)
  | _, _ => false
section
variable {P : Program} {N : Nat} {ops : Array Oper} {Q : Post} {next : Env → World → Prop} {e : Env} {w w0 : World} {M : Nat → Prop} {L : List Res} {ty : TypeId} {pos : String} {af : Array Edge} {d : Nat}
theorem opStep.strBytes {src dst : TypeId} {x : Operand} {s : ByteArray} (hp : Hp w0 M L w) (hT : convSB P src dst = true) (hx : ev e x = .string s)
    (h : ∀ b c w', Hp w0 M (Res.bs b s :: L) w' → next (upd e d (.slice (some ⟨b, 0, none⟩) s.size c)) w') :
    opStep P N ops Q ⟨some d, .convert src dst x, ty, pos, af, none⟩ next e w := by
  unfold convSB at hT
  split at hT
  · rename_i E hs hd
    split at hT
    · rename_i he
      have hrun := Go.Lib.run_convert_string_bytes w src dst E s hs hd he
      refine opStep.val (v := .slice (some ⟨w.heap.size, 0, none⟩) s.size (grownCap w s.size 0 E)) (w' := Go.Lib.bytesWorld w E s) rfl ?_ (h w.heap.size _ _ ?_)
      · simp [execOp, hx, hrun]
      · refine hp.new (w' := Go.Lib.bytesWorld w E s) ⟨rfl, rfl, rfl, by rw [Go.Lib.bytesWorld_size]; omega, fun k hk _ => Go.Lib.bytesWorld_at_old w E s k hk⟩ _ ⟨_, _, _, Go.Lib.bytesWorld_at_new w E s, fun j u hu => ?_⟩ fun b hb => ?_
        · have hl : ((bytesI s).flatMap u8c).length = s.size := by rw [u8c_map]; simp [bytesI]
          have hj : j < s.size := by rw [← hl]; exact (List.getElem?_eq_some_iff.1 hu).1
          rw [u8c_map] at hu
          simp only [bytesI, List.map_map, List.getElem?_map, Option.map_eq_some_iff] at hu
          obtain ⟨c, hc, rfl⟩ := hu
          have hc2 : s.data[j]? = some c := by simpa using hc
          obtain ⟨hj2, rfl⟩ := Array.getElem?_eq_some_iff.1 hc2
          simp [Go.Lib.bytesCells, Array.getElem?_append, hj]
        · have : b = w.heap.size := hb
          subst this
          rw [Go.Lib.bytesWorld_size]; omega
    · cases hT
  · cases hT
end
end Go.Proofs.YtbpedjefoajegaaDoor.K
