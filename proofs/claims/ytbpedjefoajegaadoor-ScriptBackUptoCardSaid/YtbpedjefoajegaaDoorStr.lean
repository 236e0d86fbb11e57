/- Bytes that are read as a string. -/
import Derived.Test.YtbpedjefoajegaaDoorOpen
import Derived.Laws.BytesString
namespace Go.Proofs.YtbpedjefoajegaaDoor.K
open Go Go.RowKit

abbrev u8c : Int → List Value := fun y => [.int .u8 y]
def strOf (ns : List Int) : ByteArray := ns.foldl (fun r n => r.push (UInt8.ofNat n.toNat)) ByteArray.empty
def bytesAt (w : World) (s : SlH) : List Int := (List.range s.n).map fun i => match w.cell? ((adr s.a).add i) with | some (.int _ x) => x | _ => 0
def valAt (w : World) (s : SlH) : ByteArray := strOf (bytesAt w s)
theorem u8c_map (ns : List Int) : ns.flatMap u8c = ns.map (Value.int .u8) := by induction ns <;> simp_all [u8c]
theorem Bs.of {P : Program} {w : World} {a : Option Addr} {n c : Nat} {ns : List Int} (h : SlR w a n (ns.flatMap u8c)) (hn : ns.length = n) : Bs P w (.slice a n c) (.string (strOf ns)) := by
  unfold Bs
  cases a with
  | none =>
    have : n = 0 := by
      rcases Nat.eq_zero_or_pos n with h0 | h0
      · exact h0
      · have := h.some h0; simp at this
    subst this
    obtain rfl : ns = [] := List.eq_nil_of_length_eq_zero hn
    simp [Conv.bytesToString, strOf]
  | some ad =>
    refine run_bytesToString w ad n c ns ?_
    have := run_loadCells_list (P := P) w ad (ns.map (Value.int .u8)) (by rw [← u8c_map]; exact h.rd)
    rwa [List.length_map, hn] at this
theorem bytesAt_of {w : World} {s : SlH} {ns : List Int} (h : SlR w s.a s.n (ns.flatMap u8c)) (hn : ns.length = s.n) : bytesAt w s = ns := by
  apply List.ext_getElem?
  intro i
  unfold bytesAt
  rw [List.getElem?_map, ← hn]
  by_cases hi : i < ns.length
  · rw [List.getElem?_range hi, List.getElem?_eq_getElem hi]
    have := h.rd i (.int .u8 ns[i]) (by rw [u8c_map]; simp [hi])
    simp [this]
  · simp [hi]
/-- A slice that holds bytes. -/
def VB (w : World) (s : SlH) : Prop := SlR w s.a s.n ((bytesAt w s).flatMap u8c)
theorem bytesAt_len (w : World) (s : SlH) : (bytesAt w s).length = s.n := by simp [bytesAt]
theorem VB.bs {P : Program} {w0 w : World} {L : List Res} {s : SlH} (h : VB w0 s) (hp : Hp w0 Non L w) : Bs P w s.v (.string (valAt w0 s)) := Bs.of (SlR.at h hp) (bytesAt_len _ _)
theorem VB.of {w : World} {ok : Int → Prop} {Bn : Nat} {s : SlH} {l : List Int} (h : SlD w u8c ok Bn s l) : VB w s := by
  unfold VB
  have h2 : SlR w s.a s.n (l.flatMap u8c) := h.rd
  rw [bytesAt_of h2 h.len.symm]
  exact h2
theorem VB.fram {w w' : World} {s : SlH} (h : VB w s) (hf : Fram Non w w') : bytesAt w' s = bytesAt w s := bytesAt_of (SlR.fram h hf) (bytesAt_len _ _)
end Go.Proofs.YtbpedjefoajegaaDoor.K
