/- Words of a line, numbers in tens: the plain laws, and a list of texts that is read. -/
import Derived.Test.YtbpedjefoajegaaDoorCoreT
import Derived.Test.YtbpedjefoajegaaDoorStr
import Derived.Lib.ItoaNum
import Derived.Lib.ItoaMem
import Derived.Lib.ParseIntB
import Derived.Lib.ParseIntBTie
import Derived.Lib.ItoaLen
import Derived.Lib.AtoiAllCases
import Derived.Lib.IndexMore
import Derived.Lib.SplitLaws
namespace Go.Proofs.YtbpedjefoajegaaDoor.K
open Go Go.RowKit
set_option linter.unusedVariables false
def digL (l : List UInt8) : Prop := ∀ c ∈ l, 48 ≤ c.toNat ∧ c.toNat ≤ 57
theorem dig_one {u : Nat} (h : u < 10) : (UInt8.ofNat (48 + u)).toNat = 48 + u := by
  have e : (UInt8.ofNat (48 + u)).toNat = (48 + u) % 256 := by first | exact UInt8.toNat_ofNat' | rfl
  omega
theorem dec_dig : ∀ u : Nat, digL (Lib.decDigits u) ∧ Lib.decDigits u ≠ [] := by
  intro u
  induction u using Nat.strongRecOn with
  | _ u ih =>
    rw [Lib.decDigits]
    by_cases h : u < 10
    · rw [dif_pos h]
      refine ⟨fun c hc => ?_, by simp⟩
      rw [List.mem_singleton.1 hc, dig_one h]; omega
    · rw [dif_neg h]
      refine ⟨fun c hc => ?_, by simp⟩
      rcases List.mem_append.1 hc with hc | hc
      · exact (ih (u / 10) (by omega)).1 c hc
      · rw [List.mem_singleton.1 hc, dig_one (by omega)]; omega
theorem uintM_dec {M : Nat} (hM : M ≤ 18446744073709551615) : ∀ (u : Nat) (rest : List UInt8), u ≤ M → Lib.parseUintM M 0 (Lib.decDigits u ++ rest) = Lib.parseUintM M u rest := by
  intro u
  induction u using Nat.strongRecOn with
  | _ u ih =>
    intro rest hu
    rw [Lib.decDigits]
    by_cases h : u < 10
    · rw [dif_pos h, List.singleton_append, Lib.parseUintM, dig_one h, if_pos (by omega), if_neg (by omega), if_neg (by omega)]
      congr 1; omega
    · rw [dif_neg h, List.append_assoc, ih (u / 10) (by omega) _ (by omega), List.singleton_append, Lib.parseUintM, dig_one (by omega), if_pos (by omega), if_neg (by omega), if_neg (by omega)]
      congr 1; omega
theorem uint10_dec : ∀ (u : Nat) (rest : List UInt8), u ≤ 18446744073709551615 → Lib.parseUint10 0 (Lib.decDigits u ++ rest) = Lib.parseUint10 u rest := by
  intro u
  induction u using Nat.strongRecOn with
  | _ u ih =>
    intro rest hu
    rw [Lib.decDigits]
    by_cases h : u < 10
    · rw [dif_pos h, List.singleton_append, Lib.parseUint10, dig_one h, if_pos (by omega), if_neg (by omega), if_neg (by omega)]
      congr 1; omega
    · rw [dif_neg h, List.append_assoc, ih (u / 10) (by omega) _ (by omega), List.singleton_append, Lib.parseUint10, dig_one (by omega), if_pos (by omega), if_neg (by omega), if_neg (by omega)]
      congr 1; omega
theorem int64_dec {u : Nat} (hu : u ≤ 9223372036854775807) : Lib.parseIntB 64 (Lib.decDigits u) = .ok (u : Int) := by
  obtain ⟨hd, hn⟩ := dec_dig u
  have h0 := uintM_dec (M := 2 ^ 64 - 1) (by omega) u [] (by omega)
  rw [List.append_nil] at h0
  cases hl : Lib.decDigits u with
  | nil => exact absurd hl hn
  | cons c r =>
    have hc := hd c (by rw [hl]; simp)
    rw [hl] at h0
    unfold Lib.parseIntB
    simp only
    rw [if_neg (by omega)]
    unfold Lib.parseUintB
    rw [if_neg (by simp), h0, Lib.parseUintM]
    simp only
    rw [if_neg (by omega), if_neg (by omega), if_neg (by omega)]
theorem atoi_dec {u : Nat} (hu : u ≤ 9223372036854775807) : Lib.atoiAll (Lib.decDigits u) = .ok (u : Int) := by
  obtain ⟨hd, hn⟩ := dec_dig u
  have h0 := uint10_dec u [] (by omega)
  rw [List.append_nil] at h0
  cases hl : Lib.decDigits u with
  | nil => exact absurd hl hn
  | cons c r =>
    have hc := hd c (by rw [hl]; simp)
    rw [hl] at h0
    unfold Lib.atoiAll
    simp only
    rw [if_neg (by omega)]
    unfold Lib.parseMag
    rw [if_neg (by simp), h0, Lib.parseUint10]
    simp only
    rw [if_neg (by omega), if_neg (by omega), if_neg (by omega)]
def itoaT (n : Int) : ByteArray := ⟨(Lib.itoa n).toArray⟩
theorem itoa_nn {n : Int} (h : 0 ≤ n) : Lib.itoa n = Lib.decDigits n.toNat := by unfold Lib.itoa; rw [if_neg (by omega)]
theorem itoaT_size {n : Int} (h0 : -9223372036854775808 ≤ n) (h1 : n ≤ 9223372036854775807) : (itoaT n).size ≤ 21 := by
  have := Lib.itoa_length_le n h0 h1
  show (Lib.itoa n).toArray.size ≤ 21
  simpa using this
theorem cut_le (l sep : List UInt8) : (Lib.cut l sep).1.length ≤ l.length ∧ (Lib.cut l sep).2.1.length ≤ l.length := by
  unfold Lib.cut
  split
  · simp only [List.length_take, List.length_drop]; omega
  · simp
theorem str_one {x : Int} : (strOf [x]).data.toList = [UInt8.ofNat x.toNat] := rfl
def spL : ByteArray := ⟨#[32]⟩
def noSp (x : ByteArray) : Prop := (32 : UInt8) ∉ x.data.toList
theorem index_in : ∀ (l m : List UInt8) (c : UInt8), c ∉ l → Lib.index (l ++ c :: m) [c] = l.length
  | [], m, c, _ => by simp [Lib.index, List.isPrefixOf]
  | b :: l, m, c, h => by
    have hb : ¬ c = b := fun e => h (by simp [e])
    have ih := index_in l m c (fun q => h (by simp [q]))
    rw [List.cons_append, Lib.index]
    have : (List.isPrefixOf [c] (b :: (l ++ c :: m))) = false := by
      have : (c == b) = false := beq_eq_false_iff_ne.2 hb
      simp [List.isPrefixOf, this]
    rw [this, ih]
    have h2 : ((l.length : Int) == -1) = false := by rw [beq_eq_false_iff_ne]; omega
    rw [if_neg (by decide), h2, if_neg (by decide), List.length_cons]; omega
theorem index_out : ∀ (l : List UInt8) (c : UInt8), c ∉ l → Lib.index l [c] = -1
  | [], c, _ => by simp [Lib.index]
  | b :: l, c, h => by
    have hb : ¬ c = b := fun e => h (by simp [e])
    have ih := index_out l c (fun q => h (by simp [q]))
    rw [Lib.index]
    have : (List.isPrefixOf [c] (b :: l)) = false := by
      have : (c == b) = false := beq_eq_false_iff_ne.2 hb
      simp [List.isPrefixOf, this]
    rw [this, ih]; rfl
def wordsB (s : ByteArray) : List ByteArray := Lib.splitB spL 0 (Lib.countB s spL) s
theorem ba_ext {a b : ByteArray} (h : a.data.toList = b.data.toList) : a = b := by
  cases a with | mk a => cases b with | mk b =>
  simp only at h
  rw [show a = b from by rw [← Array.toArray_toList (xs := a), h, Array.toArray_toList]]
theorem size_list (s : ByteArray) : s.size = s.data.toList.length := by show s.data.size = _; simp
theorem words_one {y : ByteArray} (h : noSp y) : wordsB y = [y] := by
  have hi : Lib.indexB y spL = -1 := index_out _ _ h
  unfold wordsB
  rw [Lib.splitB_miss _ _ _ _ hi]
theorem words_cons {x y : ByteArray} (h : noSp x) : wordsB (x ++ (spL ++ y)) = x :: wordsB y := by
  have hl : (x ++ (spL ++ y)).data.toList = x.data.toList ++ 32 :: y.data.toList := by simp [spL]
  have hi : Lib.indexB (x ++ (spL ++ y)) spL = (x.size : Int) := by
    show Lib.index (x ++ (spL ++ y)).data.toList [32] = _
    rw [hl, index_in _ _ _ h, size_list]
  have he : (x ++ (spL ++ y)).extract (x.size + spL.size) (x ++ (spL ++ y)).size = y := by
    apply ba_ext
    rw [ByteArray.data_extract, Array.toList_extract, hl]
    have e1 : x.size + spL.size = x.data.toList.length + 1 := by rw [size_list]; rfl
    have e2 : (x ++ (spL ++ y)).size = x.data.toList.length + 1 + y.data.toList.length := by rw [size_list, hl]; simp; omega
    rw [e1, e2, List.extract_eq_take_drop, show x.data.toList ++ 32 :: y.data.toList = (x.data.toList ++ [32]) ++ y.data.toList from by simp, List.drop_left' (by simp), List.take_of_length_le (by omega)]
  have hx : (x ++ (spL ++ y)).extract 0 (x.size + 0) = x := by
    apply ba_ext
    rw [ByteArray.data_extract, Array.toList_extract, hl, List.extract_eq_take_drop, List.drop_zero, show x.size + 0 - 0 = x.data.toList.length from by rw [size_list]; omega, List.take_left' rfl]
  have hc := Lib.countB_hit (x ++ (spL ++ y)) spL x.size (by decide) hi
  rw [he] at hc
  unfold wordsB
  rw [hc, Nat.add_comm 1, Lib.splitB_hit _ _ _ _ _ hi, hx, he]
theorem itoaT_list (n : Int) : (itoaT n).data.toList = Lib.itoa n := rfl
theorem itoa_chars {n : Int} : (∀ c ∈ Lib.itoa n, c = 45 ∨ (48 ≤ c.toNat ∧ c.toNat ≤ 57)) ∧ ∃ l c, Lib.itoa n = l ++ [c] ∧ 48 ≤ c.toNat ∧ c.toNat ≤ 57 := by
  have hd : ∀ u, ∃ l c, Lib.decDigits u = l ++ [c] ∧ 48 ≤ c.toNat ∧ c.toNat ≤ 57 := by
    intro u
    rcases List.eq_nil_or_concat (Lib.decDigits u) with q | ⟨l, c, q⟩
    · exact absurd q (dec_dig u).2
    · refine ⟨l, c, by rw [q, List.concat_eq_append], (dec_dig u).1 c (by rw [q]; simp)⟩
  unfold Lib.itoa
  split
  · refine ⟨fun c hc => ?_, ?_⟩
    · rcases List.mem_cons.1 hc with rfl | hc
      · exact .inl rfl
      · exact .inr ((dec_dig _).1 c hc)
    · obtain ⟨l, c, h1, h2⟩ := hd n.natAbs
      exact ⟨45 :: l, c, by rw [h1]; rfl, h2⟩
  · exact ⟨fun c hc => .inr ((dec_dig _).1 c hc), hd _⟩
theorem itoa_nosp (n : Int) : noSp (itoaT n) := by
  unfold noSp
  rw [itoaT_list]
  intro h
  rcases itoa_chars.1 32 h with q | q
  · exact absurd q (by decide)
  · exact absurd q.1 (by decide)
theorem atoi_back {n : Int} (h0 : -9223372036854775808 ≤ n) (h1 : n ≤ 9223372036854775807) : Lib.atoiAll (itoaT n).data.toList = .ok n := by
  rw [itoaT_list]
  unfold Lib.itoa
  by_cases h : n < 0
  · rw [if_pos h]
    obtain ⟨hd, hn⟩ := dec_dig n.natAbs
    have h2 := uint10_dec n.natAbs [] (by omega)
    rw [List.append_nil] at h2
    unfold Lib.atoiAll
    simp only
    rw [if_pos (by decide)]
    unfold Lib.parseMag
    rw [if_neg hn, h2, Lib.parseUint10]
    simp only
    rw [if_neg (by intro q; exact absurd q.1 (by decide)), if_neg (by omega), if_pos (by decide)]
    congr 1; omega
  · rw [if_neg h, atoi_dec (by omega)]
    congr 1; omega
def inI (n : Int) : Prop := -9223372036854775808 ≤ n ∧ n ≤ 9223372036854775807
theorem ba_assoc (a b c : ByteArray) : a ++ b ++ c = a ++ (b ++ c) := ba_ext (by simp)
structure NumR (bad : Bool) (ws : List ByteArray) (v : Int) (b' : Bool) : Prop where
  rng : inI v
  no : b' = false → bad = false
  yes : ∀ s u, bad = false → ws.head? = some s → Lib.atoiAll s.data.toList = .ok u → b' = false ∧ v = u
theorem itoaT_inj {a b : Int} (ra : inI a) (rb : inI b) (h : itoaT a = itoaT b) : a = b := by
  have h1 := atoi_back ra.1 ra.2
  rw [h, atoi_back rb.1 rb.2] at h1
  exact (Lib.NumEnd.ok.inj h1).symm
theorem num_of {bad : Bool} {ws : List ByteArray} {v : Int} {b' : Bool} (hv : inI v) (h : (b' = true ∧ (bad || ws.isEmpty) = true) ∨ (¬ (bad || ws.isEmpty) = true ∧ ((b' = true ∧ ∀ u, Lib.atoiAll (ws.headD ByteArray.empty).data.toList ≠ .ok u) ∨ (b' = false ∧ Lib.atoiAll (ws.headD ByteArray.empty).data.toList = .ok v)))) : NumR bad ws v b' := by
  refine ⟨hv, fun e => ?_, fun s u h1 h2 h3 => ?_⟩
  · subst e
    rcases h with ⟨h, _⟩ | ⟨h, _⟩
    · cases h
    · cases bad
      · rfl
      · exact absurd rfl h
  · subst h1
    cases ws with
    | nil => simp at h2
    | cons x r =>
      simp only [List.head?_cons, Option.some.injEq] at h2
      subst h2
      rcases h with ⟨_, h⟩ | ⟨_, ⟨_, h⟩ | ⟨h, h4⟩⟩
      · cases h
      · exact absurd h3 (h u)
      · refine ⟨h, ?_⟩
        have h4 : Lib.atoiAll x.data.toList = .ok v := h4
        rw [h3] at h4
        exact (Lib.NumEnd.ok.inj h4).symm
theorem words_size : ∀ (k : Nat) (s x : ByteArray), x ∈ Lib.splitB spL 0 k s → x.size ≤ s.size
  | 0, s, x, h => by
    rw [Lib.splitB_zero, List.mem_singleton] at h; subst h; exact Nat.le_refl _
  | k + 1, s, x, h => by
    rcases Lib.indexB_cases s spL with hi | ⟨i, hi, hr⟩
    · rw [Lib.splitB_miss _ _ _ _ hi, List.mem_singleton] at h; subst h; exact Nat.le_refl _
    · rw [Lib.splitB_hit _ _ _ _ _ hi] at h
      rcases List.mem_cons.1 h with rfl | h
      · rw [ByteArray.size_extract]; omega
      · have := words_size k _ x h
        rw [ByteArray.size_extract] at this; omega
theorem head_size {ws : List ByteArray} {m : Nat} (h : ∀ x ∈ ws, x.size ≤ m) : (ws.headD ByteArray.empty).size ≤ m := by
  cases ws with
  | nil => exact Nat.zero_le _
  | cons x r => exact h x (by simp)
theorem tail_size {ws : List ByteArray} {m : Nat} (h : ∀ x ∈ ws, x.size ≤ m) : ∀ x ∈ ws.tail, x.size ≤ m := fun x hx => h x (List.mem_of_mem_tail hx)
theorem dig_txt {n : Nat} (h : n < 10) : itoaT (n : Int) = ⟨#[UInt8.ofNat (48 + n)]⟩ := by
  unfold itoaT
  rw [itoa_nn (by omega), show ((n : Int)).toNat = n from by omega, Lib.decDigits, dif_pos h]
abbrev strc : ByteArray → List Go.Value := fun y => [.string y]
/-- A list of texts that is read, whatever block it lies in. -/
def Res.lst (g : Nat) (h : SlH) (ws : List ByteArray) : Res :=
  ⟨fun k => k = g, fun w => (0 < h.n → (adr h.a).block = g) ∧ SlR w h.a h.n (List.flatMap strc ws) ∧ h.n = ws.length ∧ h.n ≤ h.c ∧ h.c ≤ 8589934592, by
    rintro w w' hk ⟨h1, h2, h3⟩
    refine ⟨h1, ⟨?_, h2.some⟩, h3⟩
    by_cases h0 : 0 < h.n
    · exact h2.rd.keep fun _ => hk _ (h1 h0)
    · have : ws = [] := List.eq_nil_of_length_eq_zero (by omega)
      subst this
      intro j u hu; simp at hu⟩
theorem lst_slr {w : World} {g : Nat} {h : SlH} {ws : List ByteArray} (k : (Res.lst g h ws).holds w) : SlR w h.a h.n (List.flatMap strc ws) := k.2.1
theorem lst_len {w : World} {g : Nat} {h : SlH} {ws : List ByteArray} (k : (Res.lst g h ws).holds w) : h.n = ws.length ∧ h.n ≤ h.c ∧ h.c ≤ 8589934592 := k.2.2
theorem lst_tail {w : World} {g : Nat} {h : SlH} {ws : List ByteArray} (hn : 0 < h.n) (k : (Res.lst g h ws).holds w) : (Res.lst g ⟨slOff h.a h.c 1 1, h.n - 1, h.c - 1⟩ ws.tail).holds w := by
  obtain ⟨h1, h2, h3, h4, h5⟩ := k
  refine ⟨fun h0 => ?_, ?_, by rw [List.length_tail]; show h.n - 1 = _; omega, by show h.n - 1 ≤ h.c - 1; omega, by show h.c - 1 ≤ _; omega⟩
  · have := h1 hn
    show (adr (slOff h.a h.c 1 1)).block = g
    unfold slOff
    rw [if_neg (by have : 0 < h.n - 1 := h0; omega)]
    have hs := h2.some hn
    cases ha : h.a with
    | none => rw [ha] at hs; cases hs
    | some x =>
      rw [ha] at this
      show ((x.add (1 * 1))).block = g
      have : x.block = g := this
      unfold Addr.add; split <;> exact this
  · have := slr_drop (lo := 1) (c := h.c) (sz := 1) (fun _ => rfl) h3.symm h2 (by omega) h4
    rwa [List.drop_one] at this
theorem strc_map : ∀ ws : List ByteArray, List.flatMap strc ws = ws.map Go.Value.string
  | [] => rfl
  | x :: l => by rw [List.flatMap_cons, strc_map l]; rfl
theorem lst_row {w : World} {b n : Nat} {ws : List ByteArray} {t : TypeId} (hb : w.heap[b]? = some (.cells (ws.map Go.Value.string).toArray t (0, 0))) (hn : ws.length = n) (hs : n ≤ 8589934592) : (Res.lst b ⟨some ⟨b, 0, none⟩, n, n⟩ ws).holds w := by
  refine ⟨fun _ => rfl, ⟨fun j u hu => ?_, fun _ => rfl⟩, hn.symm, Nat.le_refl _, hs⟩
  show w.cell? ((⟨b, 0, none⟩ : Addr).add j) = some u
  rw [add_mk, Nat.zero_add]
  unfold World.cell?
  rw [strc_map] at hu
  simp only [hb]
  simpa using hu
end Go.Proofs.YtbpedjefoajegaaDoor.K
