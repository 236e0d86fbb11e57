/- Texts of tags: there and back (the plain law). -/
import Derived.Test.YtpmcjhjlajmljaaDoorRRRRTag
import Derived.Lib.ItoaNum
import Derived.Lib.ItoaMem
import Derived.Lib.ParseIntB
import Derived.Lib.ParseIntBTie
import Derived.Lib.ItoaLen
import Derived.Lib.AtoiAllCases
import Derived.Lib.IndexMore
namespace Go.Proofs.YtpmcjhjlajmljaaDoorRRRR.K
open Go Go.RowKit
def digL (l : List UInt8) : Prop := ∀ c ∈ l, 48 ≤ c.toNat ∧ c.toNat ≤ 57
theorem dig_one {u : Nat} (h : u < 10) : (UInt8.ofNat (48 + u)).toNat = 48 + u := by
  have e : (UInt8.ofNat (48 + u)).toNat = (48 + u) % 256 := by first | exact UInt8.toNat_ofNat' | rfl
  omega
theorem dec_dig : ∀ u : Nat, digL (Lib.decDigits u) ∧ Lib.decDigits u ≠ [] := by
  intro u
  induction u using Nat.strongRecOn with
  | _ u ih =>
    rw [Lib.decDigits]
    by_cases h : u < 10
    · rw [dif_pos h]
      refine ⟨fun c hc => ?_, by simp⟩
      rw [List.mem_singleton.1 hc, dig_one h]; omega
    · rw [dif_neg h]
      refine ⟨fun c hc => ?_, by simp⟩
      rcases List.mem_append.1 hc with hc | hc
      · exact (ih (u / 10) (by omega)).1 c hc
      · rw [List.mem_singleton.1 hc, dig_one (by omega)]; omega
theorem uintM_dec {M : Nat} (hM : M ≤ 18446744073709551615) : ∀ (u : Nat) (rest : List UInt8), u ≤ M → Lib.parseUintM M 0 (Lib.decDigits u ++ rest) = Lib.parseUintM M u rest := by
  intro u
  induction u using Nat.strongRecOn with
  | _ u ih =>
    intro rest hu
    rw [Lib.decDigits]
    by_cases h : u < 10
    · rw [dif_pos h, List.singleton_append, Lib.parseUintM, dig_one h, if_pos (by omega), if_neg (by omega), if_neg (by omega)]
      congr 1; omega
    · rw [dif_neg h, List.append_assoc, ih (u / 10) (by omega) _ (by omega), List.singleton_append, Lib.parseUintM, dig_one (by omega), if_pos (by omega), if_neg (by omega), if_neg (by omega)]
      congr 1; omega
theorem uint10_dec : ∀ (u : Nat) (rest : List UInt8), u ≤ 18446744073709551615 → Lib.parseUint10 0 (Lib.decDigits u ++ rest) = Lib.parseUint10 u rest := by
  intro u
  induction u using Nat.strongRecOn with
  | _ u ih =>
    intro rest hu
    rw [Lib.decDigits]
    by_cases h : u < 10
    · rw [dif_pos h, List.singleton_append, Lib.parseUint10, dig_one h, if_pos (by omega), if_neg (by omega), if_neg (by omega)]
      congr 1; omega
    · rw [dif_neg h, List.append_assoc, ih (u / 10) (by omega) _ (by omega), List.singleton_append, Lib.parseUint10, dig_one (by omega), if_pos (by omega), if_neg (by omega), if_neg (by omega)]
      congr 1; omega
theorem int64_dec {u : Nat} (hu : u ≤ 9223372036854775807) : Lib.parseIntB 64 (Lib.decDigits u) = .ok (u : Int) := by
  obtain ⟨hd, hn⟩ := dec_dig u
  have h0 := uintM_dec (M := 2 ^ 64 - 1) (by omega) u [] (by omega)
  rw [List.append_nil] at h0
  cases hl : Lib.decDigits u with
  | nil => exact absurd hl hn
  | cons c r =>
    have hc := hd c (by rw [hl]; simp)
    rw [hl] at h0
    unfold Lib.parseIntB
    simp only
    rw [if_neg (by omega)]
    unfold Lib.parseUintB
    rw [if_neg (by simp), h0, Lib.parseUintM]
    simp only
    rw [if_neg (by omega), if_neg (by omega), if_neg (by omega)]
theorem atoi_dec {u : Nat} (hu : u ≤ 9223372036854775807) : Lib.atoiAll (Lib.decDigits u) = .ok (u : Int) := by
  obtain ⟨hd, hn⟩ := dec_dig u
  have h0 := uint10_dec u [] (by omega)
  rw [List.append_nil] at h0
  cases hl : Lib.decDigits u with
  | nil => exact absurd hl hn
  | cons c r =>
    have hc := hd c (by rw [hl]; simp)
    rw [hl] at h0
    unfold Lib.atoiAll
    simp only
    rw [if_neg (by omega)]
    unfold Lib.parseMag
    rw [if_neg (by simp), h0, Lib.parseUint10]
    simp only
    rw [if_neg (by omega), if_neg (by omega), if_neg (by omega)]
theorem index_dot : ∀ (l m : List UInt8), digL l → Lib.index (l ++ 46 :: m) [46] = l.length
  | [], m, _ => by simp [Lib.index, List.isPrefixOf]
  | c :: l, m, h => by
    have hc := h c (by simp)
    have ih := index_dot l m (fun x hx => h x (by simp [hx]))
    rw [List.cons_append, Lib.index]
    have : (List.isPrefixOf [46] (c :: (l ++ 46 :: m))) = false := by
      have : ((46 : UInt8) == c) = false := by
        rw [beq_eq_false_iff_ne]; intro e; subst e; exact absurd hc.1 (by decide)
      simp [List.isPrefixOf, this]
    rw [this, ih]
    have h2 : ((l.length : Int) == -1) = false := by rw [beq_eq_false_iff_ne]; omega
    rw [if_neg (by decide), h2, if_neg (by decide), List.length_cons]; omega
theorem cut_dot {l m : List UInt8} (h : digL l) : Lib.cut (l ++ 46 :: m) [46] = (l, m, true) := by
  unfold Lib.cut
  rw [index_dot l m h, if_pos (by omega)]
  simp [List.drop_append]
def itoaT (n : Int) : ByteArray := ⟨(Lib.itoa n).toArray⟩
open Classical in
noncomputable def textT (t : GTag) : ByteArray := if tagValid t then (itoaT t.Count ++ ⟨#[46]⟩) ++ itoaT t.Client else ⟨#[]⟩
open Classical in
noncomputable def parseT (s : ByteArray) : GTag × Int := match Lib.parseIntB 64 (Lib.cut s.data.toList [46]).1, Lib.atoiAll (Lib.cut s.data.toList [46]).2.1 with
  | .ok a, .ok b => if textT ⟨a, b⟩ = s then (⟨a, b⟩, 0) else (⟨0, 0⟩, 31)
  | _, _ => (⟨0, 0⟩, 31)
theorem itoa_nn {n : Int} (h : 0 ≤ n) : Lib.itoa n = Lib.decDigits n.toNat := by unfold Lib.itoa; rw [if_neg (by omega)]
theorem text_list {t : GTag} (h : tagValid t) : (textT t).data.toList = Lib.itoa t.Count ++ 46 :: Lib.itoa t.Client := by
  unfold textT
  rw [if_pos h]
  simp [itoaT]
theorem valid_nn {t : GTag} (h : tagValid t) : 0 ≤ t.Count ∧ t.Count ≤ 4611686018427387903 ∧ 0 ≤ t.Client ∧ t.Client ≤ 65535 := by
  unfold tagValid tagZero tagProper at h; omega
theorem text_back {t : GTag} (h : tagValid t) : parseT (textT t) = (t, 0) := by
  obtain ⟨h1, h2, h3, h4⟩ := valid_nn h
  unfold parseT
  rw [text_list h, itoa_nn h1, itoa_nn h3, cut_dot (dec_dig _).1]
  simp only
  rw [int64_dec (by omega), atoi_dec (by omega)]
  simp only
  rw [show ((t.Count.toNat : Nat) : Int) = t.Count from by omega, show ((t.Client.toNat : Nat) : Int) = t.Client from by omega, if_pos rfl]
theorem text_ne {t : GTag} (h : tagValid t) : ¬ textT t = ⟨#[]⟩ := by
  intro e
  have := text_list h
  rw [e] at this
  simp at this
theorem text_no {t : GTag} (h : ¬ tagValid t) : textT t = ⟨#[]⟩ := by unfold textT; rw [if_neg h]
theorem parse_ok {s : ByteArray} (h : (parseT s).2 = 0) : tagValid (parseT s).1 ∧ textT (parseT s).1 = s := by
  unfold parseT at h ⊢
  split at h <;> rename_i h1 h2
  · rename_i a b
    split at h
    · rename_i e
      simp only [e, if_true]
      refine ⟨?_, trivial⟩
      apply Classical.byContradiction
      intro hn
      rw [text_no hn] at e
      subst e
      simp [Lib.cut, Lib.index, Lib.parseIntB] at h1
    · cases h
  · cases h
theorem parse_no {s : ByteArray} (h : ¬ (parseT s).2 = 0) : parseT s = (⟨0, 0⟩, 31) := by
  unfold parseT at h ⊢
  split at h
  · split at h
    · exact absurd rfl h
    · rename_i e; simp only [e, if_false]
  · rfl
theorem itoaT_size {n : Int} (h0 : -9223372036854775808 ≤ n) (h1 : n ≤ 9223372036854775807) : (itoaT n).size ≤ 21 := by
  have := Lib.itoa_length_le n h0 h1
  show (Lib.itoa n).toArray.size ≤ 21
  simpa using this
theorem textT_size {t : GTag} : (textT t).size ≤ 50 := by
  by_cases h : tagValid t
  · obtain ⟨h1, h2, h3, h4⟩ := valid_nn h
    have a := itoaT_size (n := t.Count) (by omega) (by omega)
    have b := itoaT_size (n := t.Client) (by omega) (by omega)
    unfold textT
    rw [if_pos h, ByteArray.size_append, ByteArray.size_append]
    show _ + 1 + _ ≤ 50
    omega
  · rw [text_no h]; decide
theorem parse_err1 {s : ByteArray} (h : ∀ u, Lib.parseIntB 64 (Lib.cut s.data.toList [46]).1 ≠ .ok u) : parseT s = (⟨0, 0⟩, 31) := by
  unfold parseT
  split
  · rename_i h1 _; exact absurd h1 (h _)
  · rfl
theorem parse_err2 {s : ByteArray} (h : ∀ u, Lib.atoiAll (Lib.cut s.data.toList [46]).2.1 ≠ .ok u) : parseT s = (⟨0, 0⟩, 31) := by
  unfold parseT
  split
  · rename_i _ h1; exact absurd h1 (h _)
  · rfl
open Classical in
theorem parse_both {s : ByteArray} {a b : Int} (h1 : Lib.parseIntB 64 (Lib.cut s.data.toList [46]).1 = .ok a) (h2 : Lib.atoiAll (Lib.cut s.data.toList [46]).2.1 = .ok b) : (textT ⟨a, b⟩ = s → parseT s = (⟨a, b⟩, 0)) ∧ (¬ textT ⟨a, b⟩ = s → parseT s = (⟨0, 0⟩, 31)) := by
  constructor <;> intro h <;> unfold parseT <;> rw [h1, h2] <;> simp only
  · rw [if_pos h]
  · rw [if_neg h]
theorem text_12 : textT ⟨12, 3⟩ = ⟨#[49, 50, 46, 51]⟩ := by
  have hv : tagValid ⟨12, 3⟩ := .inr ⟨by decide, by decide, by decide, by decide⟩
  have h12 : Lib.decDigits 12 = [49, 50] := by rw [Lib.decDigits, dif_neg (by decide), Lib.decDigits, dif_pos (by decide)]; rfl
  have h3 : Lib.decDigits 3 = [51] := by rw [Lib.decDigits, dif_pos (by decide)]; rfl
  unfold textT itoaT
  rw [if_pos hv, itoa_nn (by decide), itoa_nn (by decide)]
  show ((⟨(Lib.decDigits 12).toArray⟩ : ByteArray) ++ ⟨#[46]⟩) ++ ⟨(Lib.decDigits 3).toArray⟩ = _
  rw [h12, h3]; rfl
theorem text_00 : textT ⟨0, 0⟩ = ⟨#[48, 46, 48]⟩ := by
  have hv : tagValid ⟨0, 0⟩ := .inl ⟨rfl, rfl⟩
  have h0 : Lib.decDigits 0 = [48] := by rw [Lib.decDigits, dif_pos (by decide)]; rfl
  unfold textT itoaT
  rw [if_pos hv, itoa_nn (by decide)]
  show ((⟨(Lib.decDigits 0).toArray⟩ : ByteArray) ++ ⟨#[46]⟩) ++ ⟨(Lib.decDigits 0).toArray⟩ = _
  rw [h0]; rfl
theorem cut_le (l sep : List UInt8) : (Lib.cut l sep).1.length ≤ l.length ∧ (Lib.cut l sep).2.1.length ≤ l.length := by
  unfold Lib.cut
  split
  · simp only [List.length_take, List.length_drop]; omega
  · simp
theorem parse_rng {s : ByteArray} : -9223372036854775808 ≤ (parseT s).1.Count ∧ (parseT s).1.Count ≤ 9223372036854775807 ∧ -9223372036854775808 ≤ (parseT s).1.Client ∧ (parseT s).1.Client ≤ 9223372036854775807 := by
  by_cases h : (parseT s).2 = 0
  · have := valid_nn (parse_ok h).1; omega
  · rw [parse_no h]; decide
end Go.Proofs.YtpmcjhjlajmljaaDoorRRRR.K
