/- What slices.Insert and slices.Delete do to a slice of a call's own: rules. -/
import Derived.Test.YtoeholipggkcaaaCoreT
import Derived.Test.YtoeholipggkcaaaCoreU
import Derived.Test.YtoeholipggkcaaaCoreX
import Derived.Test.YtoeholipggkcaaaStbR
import Derived.Lib.AppendZerosOnto
import Derived.Lib.Overlaps
namespace Go.Proofs.Ytoeholipggkcaaa.K
open Go Go.RowKit
set_option linter.unusedVariables false
section
variable {P : Program} {N : Nat} {ops : Array Oper} {Q : Post} {next : Env → World → Prop} {e : Env} {w w0 : World} {M : Nat → Prop} {A B L : List Res} {ty : TypeId} {pos : String} {af : Array Edge} {d : Nat}
def intT (P : Program) (t : TypeId) : Option IntKind := match P.underlying t with
  | some (.int k) => some k
  | _ => none
theorem intT_spec {P : Program} {t : TypeId} {k : IntKind} (h : intT P t = some k) : P.underlying t = some (.int k) := by
  unfold intT at h
  split at h
  · rename_i k' hu
    cases h
    exact hu
  · cases h
/-- append(s[:i], make(S, k)...) where there is no room. -/
theorem opStep.appendZ {T TN E ty2 : TypeId} {s x : Operand} {sz n c i k g : Nat} {xs : List Value} {kn kq : IntKind} (hp : Hp w0 M (A ++ Res.own E sz (.slice (some ⟨g, 0, none⟩) n c) n xs :: B) w)
    (bytes : Nat) (hT : appInfo P T = some (E, sz, bytes)) (hTN : intT P TN = some kn) (hsz : 0 < sz)
    (hs : ev e s = .slice (some ⟨g, 0, none⟩) i c) (hx : ev e x = .int kq (k : Int)) (hin : i ≤ n) (h0 : 0 < k) (hg : c < i + k)
    (hb : (i + k) * bytes ≤ 140737488355328) (h63 : i + k ≤ maxLen)
    (h : ∀ b c' zs w', zs.length = k * sz → i + k ≤ c' → Hp w0 M (Res.own E sz (.slice (some ⟨b, 0, none⟩) (i + k) c') (i + k) (xs.take (i * sz) ++ zs) :: (A ++ Res.own E sz (.slice (some ⟨g, 0, none⟩) n c) n xs :: B)) w' → next (upd e d (.slice (some ⟨b, 0, none⟩) (i + k) c')) w') :
    opStep P N ops Q ⟨some d, .call ⟨.builtin .append, #[s, x], #[T, TN]⟩, ty2, pos, af, none⟩ next e w := by
  obtain ⟨inf, z, hu, hi, hz, rfl, rfl, hzs⟩ := appInfo_spec hT
  have hun := intT_spec hTN
  have hown : (Res.own E inf.size (.slice (some ⟨g, 0, none⟩) n c) n xs).holds w := hp.get
  have hxl : xs.length = n * inf.size := hown.1
  have hle : i * inf.size ≤ n * inf.size := Nat.mul_le_mul_right _ hin
  have htl : (xs.take (i * inf.size)).length = i * inf.size := by rw [List.length_take]; omega
  have hcells := World.ownsRow.cells (w := w) (g := g) hown rfl
  have hold : (Builtin.firstCells inf.size i (.slice (some ⟨g, 0, none⟩) i c)).run P w.drew = .ok (xs.take (i * inf.size)).toArray w.drew := by
    refine run_firstCells_some (P := P) w.drew inf.size i ⟨g, 0, none⟩ i c (xs.take (i * inf.size)) htl fun j u hu => ?_
    rw [List.getElem?_take] at hu
    split at hu
    · exact hcells j u hu
    · cases hu
  have hcl : c ≤ maxLen := by
    rcases hown.2 with ⟨q, _⟩ | ⟨g', cap, cur, q, _, _, _, h2, _⟩
    · simp at q
    · simp only [Value.slice.injEq] at q; omega
  have hfit := growslice_fits (need := i + k) (old := c) (by omega) hb
  have h48 : k * inf.bytes ≤ 281474976710656 := by
    have : k * inf.bytes ≤ (i + k) * inf.bytes := Nat.mul_le_mul_right _ (by omega)
    omega
  have hrun := Lib.run_append_grow_zeros (P := P) w T TN ty2 E inf z kq kn hu hun hi hz (some ⟨g, 0, none⟩) i c _ hold k h0 hsz hg (by simp only [maxLen] at h63; omega) h48 hfit
  have hge := grownCap_ge w (i + k) c E
  have hcm := grownCap_le_maxLen w (i + k) c E h63
  have hzl : (Builtin.zeroCells z.cells k).toList.length = k * inf.size := by rw [Array.length_toList, size_zeroCells, hzs]
  refine opStep.val (v := .slice (some ⟨w.heap.size, 0, none⟩) (i + k) (grownCap w (i + k) c E)) (w' := w.drew.alloc (.cells ((xs.take (i * inf.size)).toArray ++ Builtin.zeroCells z.cells k ++ Builtin.zeroCells z.cells (grownCap w (i + k) c E - (i + k))) E)) rfl ?_ (h w.heap.size _ (Builtin.zeroCells z.cells k).toList _ hzl hge (hp.new ?_ _ ⟨?_, .inr ⟨w.heap.size, _, _, rfl, Nat.zero_le _, heap_alloc_new w.drew _, hge, hcm, ?_, ?_⟩⟩ fun b hb' => ?_))
  · simp [execOp, resolve, invoke, builtin, hs, hx, hrun]
  · exact (Fram.drew _ _).trans (Fram.alloc _ _ _)
  · rw [List.length_append, htl, hzl, Nat.add_mul]
  · simp only [Array.size_append, List.size_toArray, size_zeroCells, hzs, htl, ← Nat.add_mul]
    congr 1
    omega
  · simp only [Array.toList_append]
    rw [show (i + k) * inf.size = ((xs.take (i * inf.size)).toArray.toList ++ (Builtin.zeroCells z.cells k).toList).length from by rw [List.length_append, hzl, Nat.add_mul]; simp [htl]]
    exact List.take_left
  · have hb2 : some w.heap.size = some b := hb'
    have : w.heap.size = b := by simpa using hb2
    subst this
    exact ⟨Nat.le_refl _, by simp⟩
/-- copy into a slice of one's own. -/
theorem opStep.copyO {T T2 E ty2 : TypeId} {x y : Operand} {sz n c m dn dc mc k p bytes g : Nat} {ad : Addr} {xa ya : Option Addr} {xs vs : List Value} (hp : Hp w0 M (A ++ Res.own E sz (.slice (some ⟨g, 0, none⟩) n c) n xs :: B) w)
    (hT : appInfo P T = some (E, sz, bytes)) (hx : ev e x = .slice xa dn dc) (hy : ev e y = .slice ya m mc) (hxa : xa = some ⟨g, p, none⟩) (hya : ya = some ad) (hk : Nat.min m dn = k) (hl : vs.length = k * sz)
    (hr : ∀ j u, vs[j]? = some u → w.cell? (ad.add j) = some u) (h1 : ∀ u ∈ vs, u.oneCell' = true) (hb : p + vs.length ≤ n * sz)
    (h : ∀ w', Hp w0 M (A ++ Res.own E sz (.slice (some ⟨g, 0, none⟩) n c) n (ow xs p vs) :: B) w' → next (upd e d (goInt k)) w') :
    opStep P N ops Q ⟨some d, .call ⟨.builtin .copy, #[x, y], #[T, T2]⟩, ty2, pos, af, none⟩ next e w := by
  subst hxa hya
  obtain ⟨inf, z, hu, hi, hz, rfl, rfl, hzs⟩ := appInfo_spec hT
  have hown : (Res.own E inf.size (.slice (some ⟨g, 0, none⟩) n c) n xs).holds w := hp.get
  obtain ⟨hxl, hh | ⟨g', cap, cur, hs, hg, hh, hn, hcap, hcs, hxs⟩⟩ := hown
  · simp at hh
  · simp only [Value.slice.injEq, Option.some.injEq, Addr.mk.injEq] at hs
    obtain ⟨⟨rfl, _⟩, _, rfl⟩ := hs
    have hle : n * inf.size ≤ c * inf.size := Nat.mul_le_mul_right _ hn
    have hcl : cur.toList.length = c * inf.size := by simpa using hcs
    have hlt : g < w.heap.size := (Array.getElem?_eq_some_iff.1 hh).1
    have hload := run_firstCells_some (P := P) w inf.size k ad m mc vs hl hr
    have hst := run_storeCells_at (P := P) g E p vs 0 cur.toList w (by simpa using hh) (by omega) (fun v hv => h1 v hv)
    rw [Nat.add_zero] at hst
    refine opStep.val (v := goInt k) (w' := w.setRow g (ow cur.toList p vs).toArray) rfl ?_ (h _ ?_)
    · have e1 : (Builtin.copy_ #[T, T2] ty2 #[.slice (some ⟨g, p, none⟩) dn dc, .slice (some ad) m mc]).run P w = .ok (goInt k) (w.setRow g (ow cur.toList p vs).toArray) := by
        simp [Builtin.copy_, run_underlying hu, Builtin.lenOf, sizeOf, typeInfo, hi, hk, hload, hst]
      simp [execOp, resolve, invoke, builtin, hx, hy, e1]
    · refine hp.mod ((setRow_fram w g _).mono fun q _ hq => by subst hq; rfl) (Res.own E inf.size (.slice (some ⟨g, 0, none⟩) n c) n (ow xs p vs)) ⟨?_, .inr ⟨g, c, (ow cur.toList p vs).toArray, rfl, hg, setRow_heap w g _ _ E _ hh, hn, hcap, ?_, ?_⟩⟩ fun q hq => ⟨?_, .inl hq⟩
      · rw [ow_len (by omega)]; exact hxl
      · simp only [List.size_toArray]; rw [ow_len (by omega)]; exact hcl
      · simp only; rw [ow_take hb (by omega), hxs]
      · have : q = g := by have hk' : some g = some q := hq; simpa using hk'.symm
        subst this; simpa using hlt
/-- A slice of one's own with more of its room. -/
theorem Hp.stretch {E : TypeId} {sz n c m g : Nat} {xs : List Value} (hp : Hp w0 M (A ++ Res.own E sz (.slice (some ⟨g, 0, none⟩) n c) n xs :: B) w) (hn : n ≤ m) (hm : m ≤ c) :
    ∃ ys, ys.length = (m - n) * sz ∧ Hp w0 M (A ++ Res.own E sz (.slice (some ⟨g, 0, none⟩) m c) m (xs ++ ys) :: B) w := by
  have hown : (Res.own E sz (.slice (some ⟨g, 0, none⟩) n c) n xs).holds w := hp.get
  obtain ⟨hxl, hh | ⟨g', cap, cur, hs, hg, hh, hn', hcap, hcs, hxs⟩⟩ := hown
  · simp at hh
  · simp only [Value.slice.injEq, Option.some.injEq, Addr.mk.injEq] at hs
    obtain ⟨⟨rfl, _⟩, _, rfl⟩ := hs
    have hcl : cur.toList.length = c * sz := by simpa using hcs
    have hle : m * sz ≤ c * sz := Nat.mul_le_mul_right _ hm
    have hle2 : n * sz ≤ m * sz := Nat.mul_le_mul_right _ hn
    have e2 : m * sz - n * sz = (m - n) * sz := (Nat.sub_mul _ _ _).symm
    refine ⟨(cur.toList.take (m * sz)).drop (n * sz), by rw [List.length_drop, List.length_take]; omega, hp.turn _ (fun _ => ?_) fun b hb => hb⟩
    have e1 : xs ++ (cur.toList.take (m * sz)).drop (n * sz) = cur.toList.take (m * sz) := by
      rw [← hxs]
      have : cur.toList.take (n * sz) = (cur.toList.take (m * sz)).take (n * sz) := by rw [List.take_take, Nat.min_eq_left hle2]
      rw [this, List.take_append_drop]
    rw [e1]
    exact ⟨by rw [List.length_take]; omega, .inr ⟨g, c, cur, rfl, hg, hh, hm, hcap, hcs, rfl⟩⟩
end
theorem ow_mid {X V0 C V : List Value} {p : Nat} (hp : p = X.length) (h : V0.length = V.length) : ow (X ++ V0 ++ C) p V = X ++ V ++ C := by
  subst hp
  unfold ow
  have h1 : (X ++ V0 ++ C).take X.length = X := by rw [List.append_assoc, List.take_left]
  have h2 : (X ++ V0 ++ C).drop (X.length + V.length) = C := by rw [← h, ← List.length_append, List.drop_left]
  rw [h1, h2]
theorem ov_false {P : Program} {w w0 : World} {M : Nat → Prop} {L : List Res} {E E2 T TB sz bytes n c g vb la ca lb cb off : Nat} {cs xs : List Value} (hp : Hp w0 M (Res.own E sz (.slice (some ⟨g, 0, none⟩) n c) n xs :: Res.row vb cs E2 :: L) w) (h0 : 0 < n) (hsz : 0 < sz) (hT : appInfo P T = some (E, sz, bytes)) :
    (Extern.SlicesOverlaps.overlaps #[T, T] #[TB] #[.slice (some ⟨vb, 0, none⟩) la ca, .slice (some ⟨g, off, none⟩) lb cb]).run P w = .ok (.bool false) w := by
  obtain ⟨inf, z, hu, hi, hz, rfl, rfl, hzs⟩ := appInfo_spec hT
  have hrow : w.heap[vb]? = some (.cells cs.toArray E2 (0, 0)) := hp.holds (Res.row vb cs E2) (by simp)
  have hne : vb ≠ g := by
    have := hp.apart
    rw [List.pairwise_cons] at this
    intro e
    exact this.1 (Res.row vb cs E2) (by simp) g rfl (by show g = vb; exact e.symm)
  obtain ⟨_, hh | ⟨g', cap, cur, hs, hg, hh, hn, hcap, hcs, hxs⟩⟩ := hp.get0
  · omega
  · simp only [Value.slice.injEq, Option.some.injEq, Addr.mk.injEq] at hs
    obtain ⟨⟨rfl, _⟩, _, rfl⟩ := hs
    refine Lib.run_overlaps_apart w T TB E hu inf.size (fun w => by simp [sizeOf, typeInfo, hi]) ⟨vb, 0, none⟩ ⟨g, off, none⟩ la ca lb cb hne E2 E cs.toArray.size cur.size ?_ ?_ ?_ ?_ ?_
    · simp only [World.shape?, hrow]
    · simp only [World.shape?, hh]
    · rw [hcs]
      have : 0 < c * inf.size := Nat.mul_pos (by omega) hsz
      omega
    · simp [World.frozen?, hrow]
    · simp [World.frozen?, hrow]
theorem slOff_lt {g c lo sz : Nat} (h : lo < c) : slOff (some ⟨g, 0, none⟩) c lo sz = some ⟨g, lo * sz, none⟩ := by
  unfold slOff
  rw [if_neg (by omega)]
  show some ((⟨g, 0, none⟩ : Addr).add (lo * sz)) = _
  rw [add_mk, Nat.zero_add]
theorem own_some {E sz n c : Nat} {a : Option Addr} {xs : List Value} {w w0 : World} {M : Nat → Prop} {L : List Res} (hp : Hp w0 M (Res.own E sz (.slice a n c) n xs :: L) w) (h0 : 0 < n) : ∃ g, a = some ⟨g, 0, none⟩ ∧ n ≤ c := by
  rcases (hp.get0).2 with ⟨q, q2⟩ | ⟨g, cap, cur, q, _, _, h, _⟩
  · omega
  · simp only [Value.slice.injEq] at q
    exact ⟨g, q.1, by omega⟩
theorem rd_drop {α : Type} {f : α → List Value} {sz i g : Nat} {w : World} {l : List α} {ys : List Value} (hf : ∀ x, (f x).length = sz) (h : Rd w (some ⟨g, 0, none⟩) (l.flatMap f ++ ys)) (hi : i ≤ l.length) : ∀ j u, ((l.drop i).flatMap f)[j]? = some u → w.cell? ((⟨g, i * sz, none⟩ : Addr).add j) = some u := by
  intro j u hu
  have hjl := (List.getElem?_eq_some_iff.1 hu).1
  have ht : ((l.take i).flatMap f).length = i * sz := by rw [flat_len hf, List.length_take, Nat.min_eq_left hi]
  have e0 : l.flatMap f = (l.take i).flatMap f ++ (l.drop i).flatMap f := by rw [← List.flatMap_append, List.take_append_drop]
  have := h (i * sz + j) u (by rw [e0, List.append_assoc, List.getElem?_append_right (by omega), ht, Nat.add_sub_cancel_left, List.getElem?_append_left hjl]; exact hu)
  rw [add_mk]
  rw [show adr (some (⟨g, 0, none⟩ : Addr)) = ⟨g, 0, none⟩ from rfl, add_mk, Nat.zero_add] at this
  exact this
/-- Something moved on by one thing, and the thing put in. -/
theorem ow_ins {α : Type} {f : α → List Value} {sz : Nat} (hf : ∀ x, (f x).length = sz) {l : List α} {i : Nat} (hi : i ≤ l.length) (x : α) {ys : List Value} (hy : ys.length = sz) :
    ow (ow (l.flatMap f ++ ys) ((i + 1) * sz) ((l.drop i).flatMap f)) (i * sz) (f x) = (l.take i ++ x :: l.drop i).flatMap f := by
  have hd : ((l.drop i).flatMap f).length = (l.length - i) * sz := by rw [flat_len hf, List.length_drop]
  have ht : ((l.take i).flatMap f).length = i * sz := by rw [flat_len hf, List.length_take, Nat.min_eq_left hi]
  have e0 : l.flatMap f = (l.take i).flatMap f ++ (l.drop i).flatMap f := by rw [← List.flatMap_append, List.take_append_drop]
  have e1 : (i + 1) * sz = i * sz + sz := Nat.succ_mul _ _
  have hx := hf x
  generalize hX : l.flatMap f ++ ys = X
  have hXl : X.length = i * sz + (l.length - i) * sz + sz := by rw [← hX, e0, List.length_append, List.length_append, ht, hd, hy]
  have hXt : X.take (i * sz) = (l.take i).flatMap f := by rw [← hX, e0, List.append_assoc, List.take_left' ht]
  have s1 : X = X.take ((i + 1) * sz) ++ X.drop ((i + 1) * sz) ++ [] := by rw [List.append_nil, List.take_append_drop]
  have o1 : ow X ((i + 1) * sz) ((l.drop i).flatMap f) = X.take ((i + 1) * sz) ++ (l.drop i).flatMap f ++ [] := by
    conv => lhs; rw [s1]
    exact ow_mid (by rw [List.length_take]; omega) (by rw [List.length_drop, hd]; omega)
  have s2 : X.take ((i + 1) * sz) = (l.take i).flatMap f ++ (X.take ((i + 1) * sz)).drop (i * sz) := by
    conv => lhs; rw [← List.take_append_drop (i * sz) (X.take ((i + 1) * sz))]
    rw [List.take_take, Nat.min_eq_left (by omega), hXt]
  rw [o1, List.append_nil, s2, ow_mid ht.symm (by rw [List.length_drop, List.length_take]; omega), List.flatMap_append, List.flatMap_cons, List.append_assoc]
theorem ow_ins2 {α : Type} {f : α → List Value} {sz : Nat} (hf : ∀ x, (f x).length = sz) {l : List α} {i : Nat} (hi : i ≤ l.length) (x : α) {zs : List Value} (hz : zs.length = (l.length + 1 - i) * sz) :
    ow (ow ((l.flatMap f).take (i * sz) ++ zs) (i * sz) (f x)) ((i + 1) * sz) ((l.drop i).flatMap f) = (l.take i ++ x :: l.drop i).flatMap f := by
  have hd : ((l.drop i).flatMap f).length = (l.length - i) * sz := by rw [flat_len hf, List.length_drop]
  have ht : ((l.take i).flatMap f).length = i * sz := by rw [flat_len hf, List.length_take, Nat.min_eq_left hi]
  have e0 : l.flatMap f = (l.take i).flatMap f ++ (l.drop i).flatMap f := by rw [← List.flatMap_append, List.take_append_drop]
  have e1 : (i + 1) * sz = i * sz + sz := Nat.succ_mul _ _
  have e2 : (l.length + 1 - i) * sz = (l.length - i) * sz + sz := by rw [← Nat.succ_mul]; congr 1; omega
  have e3 : (l.flatMap f).take (i * sz) = (l.take i).flatMap f := by rw [e0, List.take_left' ht]
  have hx := hf x
  have s1 : (l.take i).flatMap f ++ zs = (l.take i).flatMap f ++ zs.take sz ++ zs.drop sz := by rw [List.append_assoc, List.take_append_drop]
  rw [e3, s1, ow_mid ht.symm (by rw [List.length_take]; omega)]
  have s2 : (l.take i).flatMap f ++ f x ++ zs.drop sz = ((l.take i).flatMap f ++ f x) ++ zs.drop sz ++ [] := by rw [List.append_nil]
  rw [s2, ow_mid (by rw [List.length_append]; omega) (by rw [List.length_drop]; omega), List.append_nil, List.flatMap_append, List.flatMap_cons, List.append_assoc]
end Go.Proofs.Ytoeholipggkcaaa.K
