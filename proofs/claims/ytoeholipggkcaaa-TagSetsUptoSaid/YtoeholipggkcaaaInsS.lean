/- What slices.Delete does to a slice of a call's own: rules. -/
import Derived.Test.YtoeholipggkcaaaInsR
namespace Go.Proofs.Ytoeholipggkcaaa.K
open Go Go.RowKit
set_option linter.unusedVariables false
section
variable {P : Program} {N : Nat} {ops : Array Oper} {Q : Post} {next : Env → World → Prop} {e : Env} {w w0 : World} {M : Nat → Prop} {A B L : List Res} {ty : TypeId} {pos : String} {af : Array Edge} {d : Nat}
theorem opStep.slice3 {T E : TypeId} {x lo hi mx : Operand} {a : Option Addr} {n c sz bytes : Nat} {k1 k2 k3 : IntKind} {l h m : Int} (hT : appInfo P T = some (E, sz, bytes)) (hx : ev e x = .slice a n c) (hl : ev e lo = .int k1 l) (hh : ev e hi = .int k2 h) (hm : ev e mx = .int k3 m)
    (h0 : 0 ≤ l) (h1 : l ≤ h) (h2 : h ≤ m) (h3 : m ≤ c) (hn : next (upd e d (.slice (slOff a m.toNat l.toNat sz) (h.toNat - l.toNat) (m.toNat - l.toNat))) w) :
    opStep P N ops Q ⟨some d, .slice T x (some lo) (some hi) (some mx), ty, pos, af, none⟩ next e w := by
  obtain ⟨inf, z, hu, hi', hz, rfl, rfl, hzs⟩ := appInfo_spec hT
  have hel : P.elem T = E := by simp [Program.elem, hu]
  have hsz : ∀ w, (sizeOf E).run P w = .ok inf.size w := fun w => by simp [sizeOf, typeInfo, hi']
  have := run_slice_lhm (P := P) w T a n c (by rw [hel]; exact hu) k1 k2 k3 l h m h0 h1 h2 h3
  refine opStep.val (w' := w) rfl ?_ hn
  simp [execOp, run_sliceAt_slice, hel, hu, hx, hl, hh, hm, this, hsz, sliced, slOff]
/-- append(s[:i], more...) within what s has. -/
theorem opStep.appendI {T E ty2 : TypeId} {s x : Operand} {sz n c i m mc g bytes : Nat} {ad : Addr} {ya : Option Addr} {xs news : List Value} (hp : Hp w0 M (A ++ Res.own E sz (.slice (some ⟨g, 0, none⟩) n c) n xs :: B) w)
    (hT : appInfo P T = some (E, sz, bytes)) (hs : ev e s = .slice (some ⟨g, 0, none⟩) i c) (hx : ev e x = .slice ya m mc) (hya : ya = some ad) (hl : news.length = m * sz)
    (hr : ∀ j u, news[j]? = some u → w.cell? (ad.add j) = some u) (h1 : ∀ u ∈ news, u.oneCell' = true) (hb : i + m ≤ n)
    (h : ∀ w', Hp w0 M (A ++ Res.own E sz (.slice (some ⟨g, 0, none⟩) n c) n (ow xs (i * sz) news) :: B) w' → next (upd e d (.slice (some ⟨g, 0, none⟩) (i + m) c)) w') :
    opStep P N ops Q ⟨some d, .call ⟨.builtin .append, #[s, x], #[T, T]⟩, ty2, pos, af, none⟩ next e w := by
  subst hya
  obtain ⟨inf, z, hu, hi, hz, rfl, rfl, hzs⟩ := appInfo_spec hT
  have hown : (Res.own E inf.size (.slice (some ⟨g, 0, none⟩) n c) n xs).holds w := hp.get
  obtain ⟨hxl, hh | ⟨g', cap, cur, hq, hg, hh, hn, hcap, hcs, hxs⟩⟩ := hown
  · simp at hh
  · simp only [Value.slice.injEq, Option.some.injEq, Addr.mk.injEq] at hq
    obtain ⟨⟨rfl, _⟩, _, rfl⟩ := hq
    have hle : n * inf.size ≤ c * inf.size := Nat.mul_le_mul_right _ hn
    have hle2 : i * inf.size + m * inf.size ≤ n * inf.size := by rw [← Nat.add_mul]; exact Nat.mul_le_mul_right _ hb
    have hcl : cur.toList.length = c * inf.size := by simpa using hcs
    have hlt : g < w.heap.size := (Array.getElem?_eq_some_iff.1 hh).1
    have hrun := run_append_room (P := P) w T ty2 E inf hu hi g i c cur hh ad m mc news hl hr h1 (by omega) (by rw [hl, hcs]; omega)
    refine opStep.val (v := .slice (some ⟨g, 0, none⟩) (i + m) c) (w' := w.setRow g (ow cur.toList (i * inf.size) news).toArray) rfl ?_ (h _ ?_)
    · unfold ow
      simp [execOp, resolve, invoke, builtin, hs, hx, hrun]
    · refine hp.mod ((setRow_fram w g _).mono fun q _ hq => by subst hq; rfl) (Res.own E inf.size (.slice (some ⟨g, 0, none⟩) n c) n (ow xs (i * inf.size) news)) ⟨?_, .inr ⟨g, c, (ow cur.toList (i * inf.size) news).toArray, rfl, hg, setRow_heap w g _ _ E _ hh, hn, hcap, ?_, ?_⟩⟩ fun q hq => ⟨?_, .inl hq⟩
      · rw [ow_len (by omega)]; exact hxl
      · simp only [List.size_toArray]; rw [ow_len (by omega)]; exact hcl
      · simp only; rw [ow_take (by omega) (by omega), hxs]
      · have : q = g := by have hk' : some g = some q := hq; simpa using hk'.symm
        subst this; simpa using hlt
def zeroOne (P : Program) (E : TypeId) : Bool := match P.info? E with
  | some i => match i.zero with
    | some z => z.cells.all (·.oneCell')
    | none => false
  | none => false
theorem opStep.clearO {T E ty2 : TypeId} {x : Operand} {sz n c k cc p g bytes : Nat} {xa : Option Addr} {xs : List Value} (hp : Hp w0 M (A ++ Res.own E sz (.slice (some ⟨g, 0, none⟩) n c) n xs :: B) w)
    (hT : appInfo P T = some (E, sz, bytes)) (hO : zeroOne P E = true) (hsz : 0 < sz) (hx : ev e x = .slice xa k cc) (hxa : xa = some ⟨g, p, none⟩) (hb : p + k * sz ≤ n * sz) (hk : 0 < k)
    (h : ∀ zs w', zs.length = k * sz → Hp w0 M (A ++ Res.own E sz (.slice (some ⟨g, 0, none⟩) n c) n (ow xs p zs) :: B) w' → next e w') :
    opStep P N ops Q ⟨none, .call ⟨.builtin .clear, #[x], #[T]⟩, ty2, pos, af, none⟩ next e w := by
  subst hxa
  obtain ⟨inf, z, hu, hi, hz, rfl, rfl, hzs⟩ := appInfo_spec hT
  have hz1 : ∀ v ∈ (Builtin.zeroCells z.cells k).toList, v.oneCell' = true := by
    unfold zeroOne at hO
    simp only [hi, hz] at hO
    intro v hv
    simp only [Builtin.zeroCells, Array.toList_map, List.mem_map, Array.mem_toList_iff] at hv
    obtain ⟨j, _, rfl⟩ := hv
    have hlt : j % z.cells.size < z.cells.size := Nat.mod_lt _ (by omega)
    rw [getElem!_pos z.cells (j % z.cells.size) hlt]
    exact Array.all_eq_true.1 hO _ hlt
  have hzl : (Builtin.zeroCells z.cells k).toList.length = k * inf.size := by rw [Array.length_toList, size_zeroCells, hzs]
  have hown : (Res.own E inf.size (.slice (some ⟨g, 0, none⟩) n c) n xs).holds w := hp.get
  obtain ⟨hxl, hh | ⟨g', cap, cur, hq, hg, hh, hn, hcap, hcs, hxs⟩⟩ := hown
  · simp at hh
  · simp only [Value.slice.injEq, Option.some.injEq, Addr.mk.injEq] at hq
    obtain ⟨⟨rfl, _⟩, _, rfl⟩ := hq
    have hle : n * inf.size ≤ c * inf.size := Nat.mul_le_mul_right _ hn
    have hcl : cur.toList.length = c * inf.size := by simpa using hcs
    have hlt : g < w.heap.size := (Array.getElem?_eq_some_iff.1 hh).1
    have hst := run_storeCells_at (P := P) g E p (Builtin.zeroCells z.cells k).toList 0 cur.toList w (by simpa using hh) (by omega) hz1
    rw [Nat.add_zero] at hst
    obtain ⟨k', rfl⟩ : ∃ k', k = k' + 1 := ⟨k - 1, by omega⟩
    refine opStep.val (v := .tuple #[]) (w' := w.setRow g (ow cur.toList p (Builtin.zeroCells z.cells (k' + 1)).toList).toArray) rfl ?_ (h _ _ hzl ?_)
    · simp [execOp, resolve, invoke, builtin, hx, Builtin.clear_, run_underlying hu, zeroValue, typeInfo, hi, hz, hst]
    · refine hp.mod ((setRow_fram w g _).mono fun q _ hq => by subst hq; rfl) (Res.own E inf.size (.slice (some ⟨g, 0, none⟩) n c) n (ow xs p (Builtin.zeroCells z.cells (k' + 1)).toList)) ⟨?_, .inr ⟨g, c, (ow cur.toList p (Builtin.zeroCells z.cells (k' + 1)).toList).toArray, rfl, hg, setRow_heap w g _ _ E _ hh, hn, hcap, ?_, ?_⟩⟩ fun q hq => ⟨?_, .inl hq⟩
      · rw [ow_len (by omega)]; exact hxl
      · simp only [List.size_toArray]; rw [ow_len (by omega)]; exact hcl
      · simp only; rw [ow_take (by omega) (by omega), hxs]
      · have : q = g := by have hk' : some g = some q := hq; simpa using hk'.symm
        subst this; simpa using hlt
end
theorem del_src {α : Type} {f : α → List Value} {sz i g c : Nat} {w : World} {l : List α} (hf : ∀ x, (f x).length = sz) (h : Rd w (some ⟨g, 0, none⟩) (l.flatMap f)) (hi : i ≤ l.length) (hc : l.length ≤ c) : ∃ ad, slOff (some ⟨g, 0, none⟩) c i sz = some ad ∧ ∀ j u, ((l.drop i).flatMap f)[j]? = some u → w.cell? (ad.add j) = some u := by
  by_cases e : i < c
  · exact ⟨_, slOff_lt e, rd_drop (ys := []) hf (by rw [List.append_nil]; exact h) hi⟩
  · refine ⟨⟨g, 0, none⟩, by unfold slOff; rw [if_pos (by omega)], fun j u hu => ?_⟩
    rw [List.drop_of_length_le (by omega)] at hu
    simp at hu
theorem ow_del {α : Type} {f : α → List Value} {sz : Nat} (hf : ∀ x, (f x).length = sz) {l : List α} {i n : Nat} (hi : i ≤ l.length) (hn : n = l.length - i) {zs : List Value} (hz : zs.length = i * sz) :
    (ow (ow (l.flatMap f) (0 * sz) ((l.drop i).flatMap f)) (n * sz) zs).take (n * sz) = (l.drop i).flatMap f := by
  subst hn
  have hl : (l.flatMap f).length = l.length * sz := flat_len hf l
  have hd : ((l.drop i).flatMap f).length = (l.length - i) * sz := by rw [flat_len hf, List.length_drop]
  have e1 : (l.length - i) * sz + i * sz = l.length * sz := by rw [← Nat.add_mul]; congr 1; omega
  have o1 : ow (l.flatMap f) (0 * sz) ((l.drop i).flatMap f) = (l.drop i).flatMap f ++ (l.flatMap f).drop ((l.length - i) * sz) := by
    unfold ow
    rw [Nat.zero_mul, List.take_zero, List.nil_append, Nat.zero_add, hd]
  rw [o1]
  unfold ow
  rw [List.append_assoc, List.take_left' (by rw [List.length_take, List.length_append, hd]; omega), List.take_left' hd]
end Go.Proofs.Ytoeholipggkcaaa.K
