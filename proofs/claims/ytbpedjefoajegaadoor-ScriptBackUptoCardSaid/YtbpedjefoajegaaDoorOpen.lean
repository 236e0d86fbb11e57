/- The arguments of a law, opened: what a reading says of the cells, type by type. -/
import Derived.Test.YtbpedjefoajegaaDoorCoreO
import Derived.WalkKit
import Derived.ProofKit
import Derived.OpenShut
import Derived.ShutString
import Derived.ChangeOld
import Derived.Below
import Derived.SizedLaws
namespace Go.Proofs.YtbpedjefoajegaaDoor.K
open Go Go.RowKit

structure SlH where
  a : Option Addr
  n : Nat
  c : Nat
def SlH.v (s : SlH) : Value := .slice s.a s.n s.c

/-- What is known of the sizes in a datum. -/
structure WtOk {H : Type} (P : Program) (Wt : TypeId → DataW H → Prop) (B : TypeId → Nat) (Bs : Nat) : Prop where
  str : ∀ {t bytes}, P.underlying t = some .string → Wt t (.lit (.string bytes)) → bytes.length ≤ Bs
  slice : ∀ {t e es sp}, P.underlying t = some (.slice e) → 0 < P.bytesOf e → Wt t (.slice es sp) → es.length + sp.length ≤ B e ∧ (∀ d ∈ es, Wt e d)
  agg : ∀ {t fs ds}, P.underlying t = some (.struct fs) → Wt t (.agg ds) → ∀ (i : Nat) (f : Field) (d : DataW H), fs[i]? = some f → ds[i]? = some d → Wt f.type d
  arr : ∀ {t n e ds}, P.underlying t = some (.array n e) → Wt t (.agg ds) → ∀ d ∈ ds, Wt e d

section
variable {H : Type} {enc : TypeId × Value → H} {P : Program} {w : World} {Wt : TypeId → DataW H → Prop} {B : TypeId → Nat} {Bs : Nat} {fuel : Nat} {t : TypeId} {cs : List Value} {y : DataW H × List MemPlace}

/-- The reading of one place. -/
abbrev trodA (enc : TypeId × Value → H) (P : Program) (w : World) (fuel : Nat) (t : TypeId) (cs : List Value) : Option (DataW H × List MemPlace) := DataW.trod enc P w 0 (fun _ => true) true fuel t cs

theorem rng_wf {k : IntKind} {n : Int} (h : (Lit.int k n).wf = true) : Rng k n := by
  simp only [Lit.wf, Bool.and_eq_true, decide_eq_true_eq] at h
  exact h

theorem trod_int {k : IntKind} (hu : P.underlying t = some (.int k)) (h : trodA enc P w fuel t cs = some y) : ∃ n, cs = [.int k n] ∧ Rng k n := by
  cases fuel with
  | zero => simp [trodA, DataW.trod] at h
  | succ fuel =>
    simp only [trodA, DataW.trod, hu] at h
    split at h <;> first
      | (simp at h; done)
      | skip
    all_goals (rename_i hh; simp at hh)
    obtain ⟨rfl, _⟩ := hh
    split at h
    · rename_i hw
      obtain ⟨rfl, hw⟩ := hw
      exact ⟨_, rfl, rng_wf hw⟩
    · simp at h
theorem trod_bool (hu : P.underlying t = some .bool) (h : trodA enc P w fuel t cs = some y) : ∃ b, cs = [.bool b] := by
  cases fuel with
  | zero => simp [trodA, DataW.trod] at h
  | succ fuel =>
    simp only [trodA, DataW.trod, hu] at h
    split at h <;> first
      | (simp at h; done)
      | skip
    all_goals (first | exact ⟨_, rfl⟩ | (rename_i hh; simp at hh))
theorem trod_str (hW : WtOk P Wt B Bs) (hu : P.underlying t = some .string) (h : trodA enc P w fuel t cs = some y) (hy : Wt t y.1) : ∃ s, cs = [.string s] ∧ s.size ≤ Bs := by
  cases fuel with
  | zero => simp [trodA, DataW.trod] at h
  | succ fuel =>
    simp only [trodA, DataW.trod, hu] at h
    split at h <;> first
      | (simp at h; done)
      | skip
    all_goals (first | (rename_i hh; simp at hh; done) | skip)
    split at h
    · rename_i s hs
      simp at h; subst h
      have := hW.str hu hy
      exact ⟨_, rfl, by simpa using this⟩
    · simp at h

theorem mapM_get {α β : Type} {g : α → Option β} : ∀ {l : List α} {ys : List β}, l.mapM g = some ys → ys.length = l.length ∧ ∀ (i : Nat) (x : α), l[i]? = some x → ∃ y, ys[i]? = some y ∧ g x = some y
  | [], ys, h => by simp at h; subst h; simp
  | a :: l, ys, h => by
    simp only [List.mapM_cons, Option.bind_eq_bind, Option.pure_def] at h
    cases ha : g a with
    | none => simp [ha] at h
    | some b =>
      cases hl : l.mapM g with
      | none => simp [ha, hl] at h
      | some bs =>
        simp [ha, hl] at h
        subst h
        obtain ⟨h1, h2⟩ := mapM_get hl
        refine ⟨by simp [h1], fun i x hx => ?_⟩
        cases i with
        | zero => simp at hx; subst hx; exact ⟨b, by simp, ha⟩
        | succ i => simp at hx; obtain ⟨y, h3, h4⟩ := h2 i x hx; exact ⟨y, by simpa using h3, h4⟩

theorem trod_struct {fs : Array Field} (hW : WtOk P Wt B Bs) (hu : P.underlying t = some (.struct fs)) (h : trodA enc P w fuel t cs = some y) (hy : Wt t y.1) :
    cs.length = P.cellsOf t ∧ ∀ (i : Nat) (f : Field), fs[i]? = some f → ∃ fuel' z, trodA enc P w fuel' f.type ((cs.drop f.offset).take (P.cellsOf f.type)) = some z ∧ Wt f.type z.1 := by
  cases fuel with
  | zero => simp [trodA, DataW.trod] at h
  | succ fuel =>
    simp only [trodA, DataW.trod, hu] at h
    split at h
    · rename_i hl
      cases hm : fs.toList.mapM (fun f => DataW.trod enc P w 0 (fun _ => true) true fuel f.type ((cs.drop f.offset).take (P.cellsOf f.type))) with
      | none => simp [hm] at h
      | some xs =>
        simp [hm] at h
        subst h
        obtain ⟨h1, h2⟩ := mapM_get hm
        refine ⟨hl, fun i f hf => ?_⟩
        have hf' : fs.toList[i]? = some f := by simpa using hf
        obtain ⟨z, hz, hz2⟩ := h2 i f hf'
        exact ⟨fuel, z, hz2, hW.agg hu hy i f z.1 hf (by simp [hz])⟩
    · simp at h

theorem cells_get {w : World} {a : Addr} {n : Nat} {cs : List Value} (h : w.cells? 0 a n = some cs) : cs.length = n ∧ ∀ (j : Nat) (u : Value), cs[j]? = some u → w.cell? (a.add j) = some u := by
  unfold World.cells? at h
  rw [if_pos (Nat.zero_le _)] at h
  obtain ⟨h1, h2⟩ := mapM_get h
  refine ⟨by simpa using h1, fun j u hu => ?_⟩
  have hj : j < n := by
    have := (List.getElem?_eq_some_iff.1 hu).1
    simp at h1; omega
  obtain ⟨y, hy, hz⟩ := h2 j j (by simp [hj])
  rw [hu] at hy
  cases hy
  exact hz

theorem flat_get' {α : Type} {f : α → List Value} {sz : Nat} (hsz : 0 < sz) : ∀ {l : List α} (_ : ∀ x ∈ l, (f x).length = sz) {k : Nat} {u : Value}, (l.flatMap f)[k]? = some u → ∃ x, l[k / sz]? = some x ∧ (f x)[k % sz]? = some u
  | [], _, k, u, h => by simp at h
  | y :: l, hl, k, u, h => by
    have hy : (f y).length = sz := hl y (by simp)
    rw [List.flatMap_cons] at h
    by_cases hk : k < sz
    · rw [List.getElem?_append_left (by omega)] at h
      rw [Nat.div_eq_of_lt hk, Nat.mod_eq_of_lt hk]
      exact ⟨y, by simp, h⟩
    · rw [List.getElem?_append_right (by omega), hy] at h
      obtain ⟨x, h1, h2⟩ := flat_get' hsz (fun z hz => hl z (by simp [hz])) h
      refine ⟨x, ?_, ?_⟩
      · have hd : k / sz = (k - sz) / sz + 1 := by
          rw [← Nat.sub_add_cancel (Nat.le_of_not_lt hk), Nat.add_div_right _ hsz]; simp
        rw [hd]; simpa using h1
      · have hm : k % sz = (k - sz) % sz := by
          conv => lhs; rw [← Nat.sub_add_cancel (Nat.le_of_not_lt hk), Nat.add_mod_right]
        rw [hm]; exact h2

theorem trod_slice {e : TypeId} {α : Type} (f : α → List Value) (ok : α → Prop) {sz : Nat} (hW : WtOk P Wt B Bs) (hu : P.underlying t = some (.slice e)) (hsz : P.cellsOf e = sz) (hby : 0 < P.bytesOf e) (h0 : 0 < sz) (hl : ∀ x, (f x).length = sz)
    (hel : ∀ fuel cs y, trodA enc P w fuel e cs = some y → Wt e y.1 → ∃ x, cs = f x ∧ ok x) (h : trodA enc P w fuel t cs = some y) (hy : Wt t y.1) :
    ∃ (s : SlH) (l : List α), cs = [s.v] ∧ s.n = l.length ∧ s.n ≤ s.c ∧ s.c ≤ B e ∧ SlR w s.a s.n (l.flatMap f) ∧ (∀ x ∈ l, ok x) ∧ (s.a = none → s.c = 0) := by
  cases fuel with
  | zero => simp [trodA, DataW.trod] at h
  | succ fuel =>
    simp only [trodA, DataW.trod, hu] at h
    split at h <;> first
      | (simp at h; done)
      | skip
    all_goals (try (rename_i hh; simp at hh; done))
    · exact ⟨⟨none, 0, 0⟩, [], rfl, rfl, Nat.le_refl _, Nat.zero_le _, SlR.nil _ _ rfl, by simp, fun _ => rfl⟩
    · rename_i e' a len cap he
      have hee : e' = e := by simp at he; exact he.symm
      subst hee
      rw [hsz] at h
      split at h
      · rename_i hb
        cases hm : (List.range len).mapM (fun i => (w.cells? 0 (a.add (i * sz)) sz).bind (DataW.trod enc P w 0 (fun _ => true) true fuel e')) with
        | none => simp [hm] at h
        | some es =>
          cases hr : (List.range (cap - len)).mapM (fun j => (w.cells? 0 (a.add ((len + j) * sz)) sz).bind (DataW.trod enc P w 0 (fun _ => true) true fuel e')) with
          | none => simp [hm, hr] at h
          | some rs =>
            simp [hm, hr] at h
            subst h
            obtain ⟨hl1, hg⟩ := mapM_get hm
            obtain ⟨hl2, _⟩ := mapM_get hr
            obtain ⟨hB, hWe⟩ := hW.slice hu hby hy
            simp at hl1 hl2 hB
            have hex : ∀ i, i < len → ∃ x, ok x ∧ w.cells? 0 (a.add (i * sz)) sz = some (f x) := by
              intro i hi
              obtain ⟨z, hz, hz2⟩ := hg i i (by simp [hi])
              cases hc : w.cells? 0 (a.add (i * sz)) sz with
              | none => simp [hc] at hz2
              | some cs =>
                simp [hc] at hz2
                obtain ⟨x, hx, hok⟩ := hel fuel cs z hz2 (hWe z.1 (List.mem_map.2 ⟨z, List.mem_of_getElem? hz, rfl⟩))
                exact ⟨x, hok, by rw [hx]⟩
            have hlist : ∀ k, k ≤ len → ∃ l : List α, l.length = k ∧ (∀ x ∈ l, ok x) ∧ ∀ (i : Nat) (x : α), l[i]? = some x → w.cells? 0 (a.add (i * sz)) sz = some (f x) := by
              intro k
              induction k with
              | zero => intro _; exact ⟨[], rfl, by simp, by simp⟩
              | succ k ih =>
                intro hk
                obtain ⟨l, h1, h2, h3⟩ := ih (by omega)
                obtain ⟨x, hx1, hx2⟩ := hex k (by omega)
                refine ⟨l ++ [x], by simp [h1], ?_, ?_⟩
                · intro y hy; simp at hy; rcases hy with hy | rfl
                  · exact h2 y hy
                  · exact hx1
                · intro i y hy
                  rw [List.getElem?_append] at hy
                  split at hy
                  · exact h3 i y hy
                  · rename_i hi
                    have : i = k := by
                      have := (List.getElem?_eq_some_iff.1 hy).1
                      simp at this; omega
                    subst this
                    simp [h1] at hy; subst hy; exact hx2
            obtain ⟨l, h1, h2, h3⟩ := hlist len (Nat.le_refl _)
            refine ⟨⟨some a, len, cap⟩, l, rfl, h1.symm, hb.2.1, ?_, ⟨?_, fun _ => rfl⟩, h2, fun hh => by simp at hh⟩
            · show cap ≤ B e'
              omega
            · intro j u hu
              obtain ⟨x, hx, hxu⟩ := flat_get' h0 (fun x _ => hl x) hu
              have := (cells_get (h3 _ x hx)).2 (j % sz) u hxu
              rw [Addr.add_add] at this
              show w.cell? (a.add j) = some u
              rwa [Nat.mul_comm, Nat.div_add_mod] at this
      · simp at h
end

/-- The sizes of the first form. -/
theorem weightsEach_get {H : Type} {P : Program} : ∀ {ts : List TypeId} {ds : List (DataW H)} (i : Nat) (t : TypeId) (d : DataW H), ts[i]? = some t → ds[i]? = some d → ∀ x ∈ d.weights P t, x ∈ DataW.weightsEach P ts ds
  | [], _, i, t, d, h, _, _, _ => by simp at h
  | _ :: _, [], i, t, d, _, h, _, _ => by simp at h
  | t0 :: ts, d0 :: ds, 0, t, d, h1, h2, x, hx => by
    simp at h1 h2; subst h1; subst h2
    simp only [DataW.weightsEach, List.mem_append]; exact .inl hx
  | t0 :: ts, d0 :: ds, i + 1, t, d, h1, h2, x, hx => by
    simp at h1 h2
    simp only [DataW.weightsEach, List.mem_append]; exact .inr (weightsEach_get i t d h1 h2 x hx)
theorem weightsAll_get {H : Type} {P : Program} {e : TypeId} : ∀ {ds : List (DataW H)} (d : DataW H), d ∈ ds → ∀ x ∈ d.weights P e, x ∈ DataW.weightsAll P e ds
  | [], d, h, _, _ => by simp at h
  | d0 :: ds, d, h, x, hx => by
    simp only [DataW.weightsAll, List.mem_append]
    rcases List.mem_cons.1 h with rfl | h
    · exact .inl hx
    · exact .inr (weightsAll_get d h x hx)
def WtR {H : Type} (P : Program) (t : TypeId) (d : DataW H) : Prop := ∀ x ∈ d.weights P t, x ≤ reachBytes
theorem wt_reach {H : Type} (P : Program) : WtOk (H := H) P (WtR P) (fun e => reachBytes / P.bytesOf e) reachBytes where
  str := fun {t bytes} hu h => by have := h bytes.length (by simp [DataW.weights]); exact this
  slice := fun {t e es sp} hu h0 h => by
    have h' : ∀ x ∈ (es.length + sp.length) * P.bytesOf e :: (DataW.weightsAll P e es ++ DataW.weightsAll P e sp), x ≤ reachBytes := by
      have := h
      unfold WtR at this
      simpa only [DataW.weights, hu] using this
    refine ⟨?_, fun d hd x hx => h' x (by simp only [List.mem_cons, List.mem_append]; exact .inr (.inl (weightsAll_get d hd x hx)))⟩
    exact (Nat.le_div_iff_mul_le h0).2 (h' _ (by simp))
  agg := fun {t fs ds} hu h i f d hf hd x hx => by
    refine h x ?_
    simp only [DataW.weights, hu]
    exact weightsEach_get i f.type d (by simp [hf]) hd x hx
  arr := fun {t n e ds} hu h d hd x hx => by
    refine h x ?_
    simp only [DataW.weights, hu]
    exact weightsAll_get d hd x hx

theorem len_succ {α : Type} {l : List α} {n : Nat} (h : l.length = n + 1) : ∃ c r, l = c :: r ∧ r.length = n := by
  cases l with
  | nil => simp at h
  | cons c r => exact ⟨c, r, rfl, by simpa using h⟩
theorem len_zero {α : Type} {l : List α} (h : l.length = 0) : l = [] := List.eq_nil_of_length_eq_zero h

/-- A slice that was handed in. -/
structure SlD {α : Type} (w : World) (f : α → List Value) (ok : α → Prop) (Bn : Nat) (s : SlH) (l : List α) : Prop where
  len : s.n = l.length
  cap : s.n ≤ s.c
  bnd : s.c ≤ Bn
  rd : SlR w s.a s.n (l.flatMap f)
  all : ∀ x ∈ l, ok x
  nil : s.a = none → s.c = 0
theorem SlD.of {α : Type} {w : World} {f : α → List Value} {ok : α → Prop} {Bn : Nat} {cs : List Value}
    (h : ∃ (s : SlH) (l : List α), cs = [s.v] ∧ s.n = l.length ∧ s.n ≤ s.c ∧ s.c ≤ Bn ∧ SlR w s.a s.n (l.flatMap f) ∧ (∀ x ∈ l, ok x) ∧ (s.a = none → s.c = 0)) :
    ∃ s : SlH, cs = [s.v] ∧ ∃ l, SlD w f ok Bn s l := by
  obtain ⟨s, l, h1, h2, h3, h4, h5, h6, h7⟩ := h
  exact ⟨s, h1, l, ⟨h2, h3, h4, h5, h6, h7⟩⟩

theorem okWide_struct {P : Program} {w : World} {r : Reach} {base : Nat} {t : TypeId} {v : Value} {fs : Array Field} (hu : P.underlying t = some (.struct fs)) (h : Value.okWide P w r base t v) : ∃ cs, v = .agg cs := by
  unfold Value.okWide at h
  rw [hu] at h
  obtain ⟨cs, h, _⟩ := h
  exact ⟨cs, h⟩
theorem okWide_array {P : Program} {w : World} {r : Reach} {base : Nat} {t : TypeId} {v : Value} {n : Nat} {e : TypeId} (hu : P.underlying t = some (.array n e)) (h : Value.okWide P w r base t v) : ∃ cs, v = .agg cs := by
  unfold Value.okWide at h
  rw [hu] at h
  obtain ⟨cs, h, _⟩ := h
  exact ⟨cs, h⟩

end Go.Proofs.YtbpedjefoajegaaDoor.K
