/- Texts of tags, by the definition: the plain law. -/
import Derived.Test.YtpmcjhjlajmljaaDoorRRRRTagT
import Derived.Test.YtpmcjhjlajmljaaDoorRRRRCoreT
import Derived.Test.YtpmcjhjlajmljaaDoorRRRRStr
namespace Go.Proofs.YtpmcjhjlajmljaaDoorRRRR.K
open Go Go.RowKit
def decS (n : Int) : ByteArray := ⟨(Lib.decDigits n.toNat).toArray⟩
theorem itoa_dec {n : Int} (h : 0 ≤ n) : itoaT n = decS n := by unfold itoaT decS; rw [itoa_nn h]
theorem str_one {x : Int} : (strOf [x]).data.toList = [UInt8.ofNat x.toNat] := rfl
def digI (n m : Int) (s : ByteArray) : Prop := (m = n ∧ s = ⟨#[]⟩) ∨ (¬ s = ⟨#[]⟩ ∧ Lib.decDigits n.toNat = (if m = 0 then [] else Lib.decDigits m.toNat) ++ s.data.toList)
theorem dig_size {n m : Int} {s : ByteArray} (h0 : 0 ≤ n) (h1 : n ≤ 9223372036854775807) (h : digI n m s) : s.size ≤ 21 := by
  rcases h with ⟨_, rfl⟩ | ⟨_, h⟩
  · decide
  · have a := itoaT_size (n := n) (by omega) h1
    rw [itoa_dec h0] at a
    have b : (decS n).size = (Lib.decDigits n.toNat).length := by show (Lib.decDigits n.toNat).toArray.size = _; simp
    rw [b, h, List.length_append] at a
    have c : s.size = s.data.toList.length := by show s.data.size = _; simp
    omega
theorem app_ne {x s : ByteArray} (h : x.data.toList ≠ []) : ¬ x ++ s = ⟨#[]⟩ := by
  intro e
  have := congrArg (fun b : ByteArray => b.data.toList) e
  simp at this
  exact h (by simp [this.1])
theorem dig_step {n m : Int} {s : ByteArray} (h0 : 0 ≤ m) (hc : 0 < m ∨ (¬ 0 < m ∧ s = ⟨#[]⟩)) (h : digI n m s) : digI n (m.tdiv 10) (strOf [48 + m.tmod 10] ++ s) := by
  have t1 : m.tdiv 10 = m / 10 := Int.tdiv_eq_ediv_of_nonneg h0
  have t2 : m.tmod 10 = m % 10 := Int.tmod_eq_emod_of_nonneg h0
  have hx := str_one (x := 48 + m.tmod 10)
  refine .inr ⟨app_ne (by rw [hx]; simp), ?_⟩
  have hl : (strOf [48 + m.tmod 10] ++ s).data.toList = UInt8.ofNat (48 + m.toNat % 10) :: s.data.toList := by
    rw [ByteArray.data_append, Array.toList_append, hx, t2, show (48 + m % 10).toNat = 48 + m.toNat % 10 from by omega]; rfl
  have hm : Lib.decDigits m.toNat = (if m.tdiv 10 = 0 then [] else Lib.decDigits (m.tdiv 10).toNat) ++ [UInt8.ofNat (48 + m.toNat % 10)] := by
    rw [Lib.decDigits]
    by_cases q : m.toNat < 10
    · rw [dif_pos q, if_pos (by omega), Nat.mod_eq_of_lt q, List.nil_append]
    · rw [dif_neg q, if_neg (by omega), show (m.tdiv 10).toNat = m.toNat / 10 from by omega]
  rw [hl]
  rcases h with ⟨rfl, rfl⟩ | ⟨hs, h⟩
  · rw [hm]
  · have hm0 : ¬ m = 0 := by rcases hc with hc | hc; omega; exact absurd hc.2 hs
    rw [h, if_neg hm0, hm, List.append_assoc]; rfl
theorem dig_dec {m : Int} {x s : ByteArray} (h0 : 0 ≤ m) (hc : 0 < m ∨ (¬ 0 < m ∧ s = ⟨#[]⟩)) (hx : x.data.toList ≠ []) : (m.tdiv 10).toNat + (if x ++ s = ⟨#[]⟩ then 1 else 0) < m.toNat + (if s = ⟨#[]⟩ then 1 else 0) := by
  have t1 : m.tdiv 10 = m / 10 := Int.tdiv_eq_ediv_of_nonneg h0
  rw [if_neg (app_ne hx)]
  rcases hc with hc | ⟨hc, rfl⟩
  · split <;> omega
  · rw [if_pos rfl]; omega
theorem dig_end {n m : Int} {s : ByteArray} (h0 : 0 ≤ m) (hc : ¬ (0 < m ∨ (¬ 0 < m ∧ s = ⟨#[]⟩))) (h : digI n m s) : s = decS n := by
  have hm : m = 0 := by omega
  have hs : ¬ s = ⟨#[]⟩ := fun e => hc (.inr ⟨by omega, e⟩)
  rcases h with ⟨_, e⟩ | ⟨_, h⟩
  · exact absurd e hs
  · rw [if_pos hm, List.nil_append] at h
    unfold decS; rw [h]
-- what is read loosely
def wr (z : Int) : Int := IntKind.i64.wrap z
def stepR (q : Option (Int × Int × Int)) (c : UInt8) : Option (Int × Int × Int) := match q with
  | none => none
  | some (d, a, b) => if c.toNat = 46 then some (d + 1, a, b) else if c.toNat < 48 ∨ 57 < c.toNat then none else if d = 0 then some (d, wr (wr (a * 10) + ((c.toNat : Int) - 48)), b) else some (d, a, wr (wr (b * 10) + ((c.toNat : Int) - 48)))
def refL (l : List UInt8) : Option (Int × Int × Int) := l.foldl stepR (some (0, 0, 0))
theorem stepR_none (l : List UInt8) : l.foldl stepR none = none := by induction l with | nil => rfl | cons c l ih => exact ih
theorem wr_of {z : Int} (h0 : 0 ≤ z) (h1 : z ≤ 9223372036854775807) : wr z = z := wrap_of (k := .i64) ⟨by show -9223372036854775808 ≤ z; omega, h1⟩
theorem fold_a : ∀ (u : Nat) (b : Int) (rest : List UInt8), u ≤ 9223372036854775807 → (Lib.decDigits u ++ rest).foldl stepR (some (0, 0, b)) = rest.foldl stepR (some (0, (u : Int), b)) := by
  intro u
  induction u using Nat.strongRecOn with
  | _ u ih =>
    intro b rest hu
    rw [Lib.decDigits]
    by_cases h : u < 10
    · rw [dif_pos h, List.singleton_append, List.foldl_cons]
      congr 1
      unfold stepR
      simp only [dig_one h]
      rw [if_neg (by omega), if_neg (by omega), if_pos trivial, wr_of (z := 0 * 10) (by omega) (by omega), wr_of (by omega) (by omega)]
      congr 2; congr 1; omega
    · rw [dif_neg h, List.append_assoc, ih (u / 10) (by omega) _ _ (by omega), List.singleton_append, List.foldl_cons]
      congr 1
      unfold stepR
      simp only [dig_one (show u % 10 < 10 by omega)]
      rw [if_neg (by omega), if_neg (by omega), if_pos trivial, wr_of (z := ((u / 10 : Nat) : Int) * 10) (by omega) (by omega), wr_of (by omega) (by omega)]
      congr 2; congr 1; omega
theorem fold_b : ∀ (u : Nat) (a : Int) (rest : List UInt8), u ≤ 9223372036854775807 → (Lib.decDigits u ++ rest).foldl stepR (some (1, a, 0)) = rest.foldl stepR (some (1, a, (u : Int))) := by
  intro u
  induction u using Nat.strongRecOn with
  | _ u ih =>
    intro a rest hu
    rw [Lib.decDigits]
    by_cases h : u < 10
    · rw [dif_pos h, List.singleton_append, List.foldl_cons]
      congr 1
      unfold stepR
      simp only [dig_one h]
      rw [if_neg (by omega), if_neg (by omega), if_neg (by decide), wr_of (z := 0 * 10) (by omega) (by omega), wr_of (by omega) (by omega)]
      congr 2; congr 1; omega
    · rw [dif_neg h, List.append_assoc, ih (u / 10) (by omega) _ _ (by omega), List.singleton_append, List.foldl_cons]
      congr 1
      unfold stepR
      simp only [dig_one (show u % 10 < 10 by omega)]
      rw [if_neg (by omega), if_neg (by omega), if_neg (by decide), wr_of (z := ((u / 10 : Nat) : Int) * 10) (by omega) (by omega), wr_of (by omega) (by omega)]
      congr 2; congr 1; omega
theorem ref_text {t : GTag} (h : tagValid t) : refL (textT t).data.toList = some (1, t.Count, t.Client) := by
  obtain ⟨h1, h2, h3, h4⟩ := valid_nn h
  unfold refL
  rw [text_list h, itoa_nn h1, itoa_nn h3, fold_a _ _ _ (by omega), List.foldl_cons]
  have e : stepR (some (0, ((t.Count.toNat : Nat) : Int), 0)) 46 = some (1, ((t.Count.toNat : Nat) : Int), 0) := rfl
  have := fold_b t.Client.toNat ((t.Count.toNat : Nat) : Int) [] (by omega)
  rw [List.append_nil] at this
  rw [e, this]
  show some (1, ((t.Count.toNat : Nat) : Int), ((t.Client.toNat : Nat) : Int)) = _
  rw [show ((t.Count.toNat : Nat) : Int) = t.Count from by omega, show ((t.Client.toNat : Nat) : Int) = t.Client from by omega]
theorem dec_len : ∀ (k u : Nat), 1 ≤ k → u < 10 ^ k → (Lib.decDigits u).length ≤ k := by
  intro k
  induction k with
  | zero => intro u h; omega
  | succ k ih =>
    intro u _ hu
    rw [Lib.decDigits]
    by_cases h : u < 10
    · rw [dif_pos h]; simp
    · rw [dif_neg h, List.length_append]
      have hk : 1 ≤ k := by
        rcases Nat.eq_zero_or_pos k with rfl | h1
        · simp at hu; omega
        · exact h1
      have := ih (u / 10) hk (by rw [Nat.pow_succ] at hu; omega)
      simp; omega
theorem text_short {t : GTag} (h : tagValid t) : (textT t).size ≤ 25 := by
  obtain ⟨h1, h2, h3, h4⟩ := valid_nn h
  have e : (textT t).size = (textT t).data.toList.length := by show (textT t).data.size = _; simp
  rw [e, text_list h, itoa_nn h1, itoa_nn h3, List.length_append, List.length_cons]
  have a := dec_len 19 t.Count.toNat (by decide) (by have : t.Count.toNat ≤ 4611686018427387903 := by omega
                                                     exact Nat.lt_of_le_of_lt this (by decide))
  have b := dec_len 5 t.Client.toNat (by decide) (by have : t.Client.toNat ≤ 65535 := by omega
                                                     exact Nat.lt_of_le_of_lt this (by decide))
  omega
theorem parse_what {s : ByteArray} (h : ¬ parseT s = (⟨0, 0⟩, 31)) : ∃ t, tagValid t ∧ s = textT t := by
  by_cases q : (parseT s).2 = 0
  · exact ⟨_, (parse_ok q).1, (parse_ok q).2.symm⟩
  · exact absurd (parse_no q) h
theorem ref_long {s : ByteArray} (h : 40 < s.size) : parseT s = (⟨0, 0⟩, 31) := by
  apply Classical.byContradiction
  intro q
  obtain ⟨t, h1, rfl⟩ := parse_what q
  have := text_short h1; omega
theorem ref_bad {s : ByteArray} {k : Nat} {q : Int × Int × Int} (hk : k < s.size) (hq : refL (s.data.toList.take k) = some q) (hc : ¬ byteAt s k = 46 ∧ (byteAt s k < 48 ∨ 57 < byteAt s k)) : parseT s = (⟨0, 0⟩, 31) := by
  apply Classical.byContradiction
  intro w
  obtain ⟨t, h1, rfl⟩ := parse_what w
  have hr := ref_text h1
  have hk' : k < (textT t).data.toList.length := by simpa using hk
  have hb : byteAt (textT t) k = ((textT t).data.toList[k].toNat : Int) := by
    unfold byteAt; rw [show ((k : Nat) : Int).toNat = k from by omega, List.getElem?_eq_getElem hk']; rfl
  have e : (textT t).data.toList = (textT t).data.toList.take k ++ (textT t).data.toList[k] :: (textT t).data.toList.drop (k + 1) := by
    rw [← List.drop_eq_getElem_cons hk', List.take_append_drop]
  rw [hb] at hc
  unfold refL at hr hq
  rw [e, List.foldl_append, hq, List.foldl_cons] at hr
  have hn : stepR (some q) (textT t).data.toList[k] = none := by
    obtain ⟨d, a, b⟩ := q
    unfold stepR
    simp only
    rw [if_neg (by omega), if_pos (by omega)]
  rw [hn, stepR_none] at hr
  cases hr
theorem ref_step {s : ByteArray} {k : Nat} {d a b : Int} (hk : k < s.size) (hq : refL (s.data.toList.take k) = some (d, a, b)) :
    (byteAt s k = 46 → refL (s.data.toList.take (k + 1)) = some (d + 1, a, b)) ∧ (¬ byteAt s k = 46 → ¬ (byteAt s k < 48 ∨ 57 < byteAt s k) →
      (d = 0 → refL (s.data.toList.take (k + 1)) = some (d, wr (wr (a * 10) + (byteAt s k - 48)), b)) ∧ (¬ d = 0 → refL (s.data.toList.take (k + 1)) = some (d, a, wr (wr (b * 10) + (byteAt s k - 48))))) := by
  have hk' : k < s.data.toList.length := by simpa using hk
  have hb : byteAt s k = (s.data.toList[k].toNat : Int) := by
    unfold byteAt; rw [show ((k : Nat) : Int).toNat = k from by omega, List.getElem?_eq_getElem hk']; rfl
  have e : refL (s.data.toList.take (k + 1)) = stepR (some (d, a, b)) s.data.toList[k] := by
    unfold refL at *
    rw [List.take_succ_eq_append_getElem hk', List.foldl_append, hq]; rfl
  rw [hb, e]
  unfold stepR
  simp only
  refine ⟨fun h => by rw [if_pos (by omega)], fun h1 h2 => ⟨fun h3 => ?_, fun h3 => ?_⟩⟩
  · rw [if_neg (by omega), if_neg (by omega), if_pos h3]
  · rw [if_neg (by omega), if_neg (by omega), if_neg h3]
theorem ref_end {s : ByteArray} {d a b : Int} (hq : refL (s.data.toList) = some (d, a, b)) : (¬ (¬ textT ⟨a, b⟩ = s ∨ (textT ⟨a, b⟩ = s ∧ s = ⟨#[]⟩)) → parseT s = (⟨a, b⟩, 0)) ∧ ((¬ textT ⟨a, b⟩ = s ∨ (textT ⟨a, b⟩ = s ∧ s = ⟨#[]⟩)) → parseT s = (⟨0, 0⟩, 31)) := by
  constructor
  · intro h
    have h1 : textT ⟨a, b⟩ = s := Classical.byContradiction fun q => h (.inl q)
    have h2 : ¬ s = ⟨#[]⟩ := fun q => h (.inr ⟨h1, q⟩)
    have hv : tagValid ⟨a, b⟩ := Classical.byContradiction fun q => h2 (by rw [← h1, text_no q])
    rw [← h1]; exact text_back hv
  · intro h
    apply Classical.byContradiction
    intro w
    obtain ⟨t, h1, rfl⟩ := parse_what w
    have hr := ref_text h1
    rw [hq] at hr
    simp only [Option.some.injEq, Prod.mk.injEq] at hr
    obtain ⟨_, rfl, rfl⟩ := hr
    rcases h with h | h
    · exact h rfl
    · exact text_ne h1 h.2
theorem slr_given {w : World} {a : Option Addr} {n : Nat} {l : List GTag} {m : GTag} (hn : n = l.length) (h : SlR w a (n + 1) (List.flatMap GTag.cells (l ++ [m]))) : SlR w a n (List.flatMap GTag.cells l) := by
  subst hn
  have := slr_take2 (sz := 2) (k := l.length) (fun _ => rfl) h (by omega)
  rwa [List.take_left'] at this
  rfl
end Go.Proofs.YtpmcjhjlajmljaaDoorRRRR.K
