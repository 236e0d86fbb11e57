/- The line of a config: its words, there and back (the plain law). -/
import Derived.Test.YtpmcjhjlajmljaaDoorRRRRTagU
import Derived.Test.YtpmcjhjlajmljaaDoorRRRRQuoC
import Derived.Lib.SplitLaws
namespace Go.Proofs.YtpmcjhjlajmljaaDoorRRRR.K
open Go Go.RowKit
def spL : ByteArray := ⟨#[32]⟩
def noSp (x : ByteArray) : Prop := (32 : UInt8) ∉ x.data.toList
theorem index_in : ∀ (l m : List UInt8) (c : UInt8), c ∉ l → Lib.index (l ++ c :: m) [c] = l.length
  | [], m, c, _ => by simp [Lib.index, List.isPrefixOf]
  | b :: l, m, c, h => by
    have hb : ¬ c = b := fun e => h (by simp [e])
    have ih := index_in l m c (fun q => h (by simp [q]))
    rw [List.cons_append, Lib.index]
    have : (List.isPrefixOf [c] (b :: (l ++ c :: m))) = false := by
      have : (c == b) = false := beq_eq_false_iff_ne.2 hb
      simp [List.isPrefixOf, this]
    rw [this, ih]
    have h2 : ((l.length : Int) == -1) = false := by rw [beq_eq_false_iff_ne]; omega
    rw [if_neg (by decide), h2, if_neg (by decide), List.length_cons]; omega
theorem index_out : ∀ (l : List UInt8) (c : UInt8), c ∉ l → Lib.index l [c] = -1
  | [], c, _ => by simp [Lib.index]
  | b :: l, c, h => by
    have hb : ¬ c = b := fun e => h (by simp [e])
    have ih := index_out l c (fun q => h (by simp [q]))
    rw [Lib.index]
    have : (List.isPrefixOf [c] (b :: l)) = false := by
      have : (c == b) = false := beq_eq_false_iff_ne.2 hb
      simp [List.isPrefixOf, this]
    rw [this, ih]; rfl
def wordsB (s : ByteArray) : List ByteArray := Lib.splitB spL 0 (Lib.countB s spL) s
theorem ba_ext {a b : ByteArray} (h : a.data.toList = b.data.toList) : a = b := by
  cases a with | mk a => cases b with | mk b =>
  simp only at h
  rw [show a = b from by rw [← Array.toArray_toList (xs := a), h, Array.toArray_toList]]
theorem size_list (s : ByteArray) : s.size = s.data.toList.length := by show s.data.size = _; simp
theorem words_one {y : ByteArray} (h : noSp y) : wordsB y = [y] := by
  have hi : Lib.indexB y spL = -1 := index_out _ _ h
  unfold wordsB
  rw [Lib.splitB_miss _ _ _ _ hi]
theorem words_cons {x y : ByteArray} (h : noSp x) : wordsB (x ++ (spL ++ y)) = x :: wordsB y := by
  have hl : (x ++ (spL ++ y)).data.toList = x.data.toList ++ 32 :: y.data.toList := by simp [spL]
  have hi : Lib.indexB (x ++ (spL ++ y)) spL = (x.size : Int) := by
    show Lib.index (x ++ (spL ++ y)).data.toList [32] = _
    rw [hl, index_in _ _ _ h, size_list]
  have he : (x ++ (spL ++ y)).extract (x.size + spL.size) (x ++ (spL ++ y)).size = y := by
    apply ba_ext
    rw [ByteArray.data_extract, Array.toList_extract, hl]
    have e1 : x.size + spL.size = x.data.toList.length + 1 := by rw [size_list]; rfl
    have e2 : (x ++ (spL ++ y)).size = x.data.toList.length + 1 + y.data.toList.length := by rw [size_list, hl]; simp; omega
    rw [e1, e2, List.extract_eq_take_drop, show x.data.toList ++ 32 :: y.data.toList = (x.data.toList ++ [32]) ++ y.data.toList from by simp, List.drop_left' (by simp), List.take_of_length_le (by omega)]
  have hx : (x ++ (spL ++ y)).extract 0 (x.size + 0) = x := by
    apply ba_ext
    rw [ByteArray.data_extract, Array.toList_extract, hl, List.extract_eq_take_drop, List.drop_zero, show x.size + 0 - 0 = x.data.toList.length from by rw [size_list]; omega, List.take_left' rfl]
  have hc := Lib.countB_hit (x ++ (spL ++ y)) spL x.size (by decide) hi
  rw [he] at hc
  unfold wordsB
  rw [hc, Nat.add_comm 1, Lib.splitB_hit _ _ _ _ _ hi, hx, he]
theorem itoaT_list (n : Int) : (itoaT n).data.toList = Lib.itoa n := rfl
theorem itoa_chars {n : Int} : (∀ c ∈ Lib.itoa n, c = 45 ∨ (48 ≤ c.toNat ∧ c.toNat ≤ 57)) ∧ ∃ l c, Lib.itoa n = l ++ [c] ∧ 48 ≤ c.toNat ∧ c.toNat ≤ 57 := by
  have hd : ∀ u, ∃ l c, Lib.decDigits u = l ++ [c] ∧ 48 ≤ c.toNat ∧ c.toNat ≤ 57 := by
    intro u
    rcases List.eq_nil_or_concat (Lib.decDigits u) with q | ⟨l, c, q⟩
    · exact absurd q (dec_dig u).2
    · refine ⟨l, c, by rw [q, List.concat_eq_append], (dec_dig u).1 c (by rw [q]; simp)⟩
  unfold Lib.itoa
  split
  · refine ⟨fun c hc => ?_, ?_⟩
    · rcases List.mem_cons.1 hc with rfl | hc
      · exact .inl rfl
      · exact .inr ((dec_dig _).1 c hc)
    · obtain ⟨l, c, h1, h2⟩ := hd n.natAbs
      exact ⟨45 :: l, c, by rw [h1]; rfl, h2⟩
  · exact ⟨fun c hc => .inr ((dec_dig _).1 c hc), hd _⟩
theorem itoa_nosp (n : Int) : noSp (itoaT n) := by
  unfold noSp
  rw [itoaT_list]
  intro h
  rcases itoa_chars.1 32 h with q | q
  · exact absurd q (by decide)
  · exact absurd q.1 (by decide)
theorem atoi_back {n : Int} (h0 : -9223372036854775808 ≤ n) (h1 : n ≤ 9223372036854775807) : Lib.atoiAll (itoaT n).data.toList = .ok n := by
  rw [itoaT_list]
  unfold Lib.itoa
  by_cases h : n < 0
  · rw [if_pos h]
    obtain ⟨hd, hn⟩ := dec_dig n.natAbs
    have h2 := uint10_dec n.natAbs [] (by omega)
    rw [List.append_nil] at h2
    unfold Lib.atoiAll
    simp only
    rw [if_pos (by decide)]
    unfold Lib.parseMag
    rw [if_neg hn, h2, Lib.parseUint10]
    simp only
    rw [if_neg (by intro q; exact absurd q.1 (by decide)), if_neg (by omega), if_pos (by decide)]
    congr 1; omega
  · rw [if_neg h, atoi_dec (by omega)]
    congr 1; omega
def wCfg : ByteArray := ⟨#[99, 111, 110, 102, 105, 103]⟩
def confT (a b g d : Int) : ByteArray := (((wCfg ++ (spL ++ itoaT a)) ++ (spL ++ itoaT b)) ++ (spL ++ itoaT g)) ++ (spL ++ itoaT d)
def inI (n : Int) : Prop := -9223372036854775808 ≤ n ∧ n ≤ 9223372036854775807
def IsConf (s : ByteArray) : Prop := ∃ a b g d, inI a ∧ inI b ∧ inI g ∧ inI d ∧ s = confT a b g d
theorem ba_assoc (a b c : ByteArray) : a ++ b ++ c = a ++ (b ++ c) := ba_ext (by simp)
theorem words_conf (a b g d : Int) : wordsB (confT a b g d) = [wCfg, itoaT a, itoaT b, itoaT g, itoaT d] := by
  unfold confT
  rw [ba_assoc, ba_assoc, ba_assoc, ba_assoc, ba_assoc, ba_assoc, words_cons (by unfold noSp; decide)]
  rw [words_cons (itoa_nosp a), words_cons (itoa_nosp b), words_cons (itoa_nosp g), words_one (itoa_nosp d)]
structure NumR (bad : Bool) (ws : List ByteArray) (v : Int) (b' : Bool) : Prop where
  rng : inI v
  no : b' = false → bad = false
  yes : ∀ s u, bad = false → ws.head? = some s → Lib.atoiAll s.data.toList = .ok u → b' = false ∧ v = u
theorem conf_no {s : ByteArray} {b1 b2 b3 b4 b5 : Bool} {v1 v2 v3 v4 : Int} (h1 : b1 = (false || (wordsB s).isEmpty)) (n1 : NumR b1 (wordsB s).tail v1 b2) (n2 : NumR b2 (wordsB s).tail.tail v2 b3) (n3 : NumR b3 (wordsB s).tail.tail.tail v3 b4) (n4 : NumR b4 (wordsB s).tail.tail.tail.tail v4 b5)
    (hc : ¬ (b5 = false ∧ ¬ 0 < (wordsB s).tail.tail.tail.tail.tail.length ∧ (wordsB s).headD ByteArray.empty = (⟨#[99, 111, 110, 102, 105, 103]⟩ : ByteArray) ∧ (((((wordsB s).headD ByteArray.empty ++ ((⟨#[32]⟩ : ByteArray) ++ itoaT v1)) ++ ((⟨#[32]⟩ : ByteArray) ++ itoaT v2)) ++ ((⟨#[32]⟩ : ByteArray) ++ itoaT v3)) ++ ((⟨#[32]⟩ : ByteArray) ++ itoaT v4)) = s)) : ¬ IsConf s := by
  rintro ⟨a, b, g, d, ra, rb, rg, rd, rfl⟩
  rw [words_conf] at *
  obtain ⟨e1, rfl⟩ := n1.yes (itoaT a) a (by rw [h1]; rfl) rfl (atoi_back ra.1 ra.2)
  obtain ⟨e2, rfl⟩ := n2.yes (itoaT b) b e1 rfl (atoi_back rb.1 rb.2)
  obtain ⟨e3, rfl⟩ := n3.yes (itoaT g) g e2 rfl (atoi_back rg.1 rg.2)
  obtain ⟨e4, rfl⟩ := n4.yes (itoaT d) d e3 rfl (atoi_back rd.1 rd.2)
  exact hc ⟨e4, by simp, rfl, rfl⟩
theorem conf_yes {s w : ByteArray} {v1 v2 v3 v4 : Int} (hw : w = (⟨#[99, 111, 110, 102, 105, 103]⟩ : ByteArray)) (hs : ((((w ++ ((⟨#[32]⟩ : ByteArray) ++ itoaT v1)) ++ ((⟨#[32]⟩ : ByteArray) ++ itoaT v2)) ++ ((⟨#[32]⟩ : ByteArray) ++ itoaT v3)) ++ ((⟨#[32]⟩ : ByteArray) ++ itoaT v4)) = s) : s = confT v1 v2 v3 v4 := by rw [← hs, hw]; rfl
/-- What Config answers. -/
def ConfR (s : ByteArray) (c : GConfig) (n e : Int) : Prop :=
  (¬ IsConf s ∧ e = 82 ∧ c = ⟨0, 0, 0⟩ ∧ n = 0) ∨
  (∃ a b g d, inI a ∧ inI b ∧ inI g ∧ inI d ∧ s = confT a b g d ∧ ((¬ okCfg ⟨a, b, g⟩ ∧ e = 40 ∧ c = ⟨0, 0, 0⟩ ∧ n = 0) ∨ (okCfg ⟨a, b, g⟩ ∧ (d < 0 ∨ 255 < d) ∧ e = 1 ∧ c = ⟨0, 0, 0⟩ ∧ n = 0) ∨ (okCfg ⟨a, b, g⟩ ∧ 0 ≤ d ∧ d ≤ 255 ∧ e = 0 ∧ c = ⟨a, b, g⟩ ∧ n = d)))
theorem itoaT_inj {a b : Int} (ra : inI a) (rb : inI b) (h : itoaT a = itoaT b) : a = b := by
  have h1 := atoi_back ra.1 ra.2
  rw [h, atoi_back rb.1 rb.2] at h1
  exact (Lib.NumEnd.ok.inj h1).symm
theorem confT_inj {a b g d a' b' g' d' : Int} (ra : inI a) (rb : inI b) (rg : inI g) (rd : inI d) (ra' : inI a') (rb' : inI b') (rg' : inI g') (rd' : inI d') (h : confT a b g d = confT a' b' g' d') : a = a' ∧ b = b' ∧ g = g' ∧ d = d' := by
  have := words_conf a b g d
  rw [h, words_conf] at this
  simp only [List.cons.injEq, and_true, true_and] at this
  obtain ⟨h1, h2, h3, h4⟩ := this
  exact ⟨(itoaT_inj ra' ra h1).symm, (itoaT_inj rb' rb h2).symm, (itoaT_inj rg' rg h3).symm, (itoaT_inj rd' rd h4).symm⟩
theorem ConfR.of {a b g d : Int} {c : GConfig} {n e : Int} (ra : inI a) (rb : inI b) (rg : inI g) (rd : inI d) (h : ConfR (confT a b g d) c n e) :
    (¬ okCfg ⟨a, b, g⟩ → e = 40 ∧ c = ⟨0, 0, 0⟩ ∧ n = 0) ∧ (okCfg ⟨a, b, g⟩ → (d < 0 ∨ 255 < d) → e = 1 ∧ c = ⟨0, 0, 0⟩ ∧ n = 0) ∧ (okCfg ⟨a, b, g⟩ → ¬ (d < 0 ∨ 255 < d) → e = 0 ∧ c = ⟨a, b, g⟩ ∧ n = d) := by
  rcases h with ⟨h, _⟩ | ⟨a', b', g', d', ra', rb', rg', rd', he, h⟩
  · exact absurd ⟨a, b, g, d, ra, rb, rg, rd, rfl⟩ h
  · obtain ⟨rfl, rfl, rfl, rfl⟩ := confT_inj ra rb rg rd ra' rb' rg' rd' he
    rcases h with ⟨h1, h2⟩ | ⟨h1, h2, h3⟩ | ⟨h1, h2, h3, h4⟩
    · exact ⟨fun _ => h2, fun q => absurd q h1, fun q => absurd q h1⟩
    · exact ⟨fun q => absurd h1 q, fun _ _ => h3, fun _ q => absurd h2 q⟩
    · exact ⟨fun q => absurd h1 q, fun _ q => by omega, fun _ _ => h4⟩
theorem conf_last (a b g d : Int) : ∃ l c, (confT a b g d).data.toList = l ++ [c] ∧ 48 ≤ c.toNat ∧ c.toNat ≤ 57 := by
  obtain ⟨l, c, h1, h2⟩ := (itoa_chars (n := d)).2
  refine ⟨((((wCfg ++ (spL ++ itoaT a)) ++ (spL ++ itoaT b)) ++ (spL ++ itoaT g)) ++ spL).data.toList ++ l, c, ?_, h2⟩
  unfold confT
  simp [itoaT_list, h1]
theorem conf_behind {s t : ByteArray} (ht : ¬ t = ⟨#[]⟩) (hd : ∀ i : Nat, i < t.size → ¬ (48 ≤ byteAt t i ∧ byteAt t i ≤ 57)) : ¬ IsConf (s ++ t) := by
  rintro ⟨a, b, g, d, _, _, _, _, he⟩
  obtain ⟨l, c, h1, h2, h3⟩ := conf_last a b g d
  have hn : t.data.toList ≠ [] := fun e => ht (ba_ext e)
  rcases List.eq_nil_or_concat t.data.toList with q | ⟨m, x, q⟩
  · exact hn q
  · rw [List.concat_eq_append] at q
    have e := congrArg (fun y : ByteArray => y.data.toList) he
    simp only [ByteArray.data_append, Array.toList_append] at e
    rw [h1, q, ← List.append_assoc] at e
    have e2 := List.append_inj' e rfl
    have e3 : x = c := by simpa using e2.2
    subst e3
    have hsz : t.size = m.length + 1 := by rw [size_list, q]; simp
    refine hd m.length (by omega) ?_
    unfold byteAt
    rw [q, show ((m.length : Nat) : Int).toNat = m.length from by omega, List.getElem?_append_right (by omega)]
    simp; omega
theorem num_of {bad : Bool} {ws : List ByteArray} {v : Int} {b' : Bool} (hv : inI v) (h : (b' = true ∧ (bad || ws.isEmpty) = true) ∨ (¬ (bad || ws.isEmpty) = true ∧ ((b' = true ∧ ∀ u, Lib.atoiAll (ws.headD ByteArray.empty).data.toList ≠ .ok u) ∨ (b' = false ∧ Lib.atoiAll (ws.headD ByteArray.empty).data.toList = .ok v)))) : NumR bad ws v b' := by
  refine ⟨hv, fun e => ?_, fun s u h1 h2 h3 => ?_⟩
  · subst e
    rcases h with ⟨h, _⟩ | ⟨h, _⟩
    · cases h
    · cases bad
      · rfl
      · exact absurd rfl h
  · subst h1
    cases ws with
    | nil => simp at h2
    | cons x r =>
      simp only [List.head?_cons, Option.some.injEq] at h2
      subst h2
      rcases h with ⟨_, h⟩ | ⟨_, ⟨_, h⟩ | ⟨h, h4⟩⟩
      · cases h
      · exact absurd h3 (h u)
      · refine ⟨h, ?_⟩
        have h4 : Lib.atoiAll x.data.toList = .ok v := h4
        rw [h3] at h4
        exact (Lib.NumEnd.ok.inj h4).symm
theorem words_size : ∀ (k : Nat) (s x : ByteArray), x ∈ Lib.splitB spL 0 k s → x.size ≤ s.size
  | 0, s, x, h => by
    rw [Lib.splitB_zero, List.mem_singleton] at h; subst h; exact Nat.le_refl _
  | k + 1, s, x, h => by
    rcases Lib.indexB_cases s spL with hi | ⟨i, hi, hr⟩
    · rw [Lib.splitB_miss _ _ _ _ hi, List.mem_singleton] at h; subst h; exact Nat.le_refl _
    · rw [Lib.splitB_hit _ _ _ _ _ hi] at h
      rcases List.mem_cons.1 h with rfl | h
      · rw [ByteArray.size_extract]; omega
      · have := words_size k _ x h
        rw [ByteArray.size_extract] at this; omega
theorem head_size {ws : List ByteArray} {m : Nat} (h : ∀ x ∈ ws, x.size ≤ m) : (ws.headD ByteArray.empty).size ≤ m := by
  cases ws with
  | nil => exact Nat.zero_le _
  | cons x r => exact h x (by simp)
theorem tail_size {ws : List ByteArray} {m : Nat} (h : ∀ x ∈ ws, x.size ≤ m) : ∀ x ∈ ws.tail, x.size ≤ m := fun x hx => h x (List.mem_of_mem_tail hx)
theorem line_conf (a b g d : Int) : (((((((⟨#[99, 111, 110, 102, 105, 103, 32]⟩ : ByteArray) ++ itoaT a) ++ (⟨#[32]⟩ : ByteArray)) ++ itoaT b) ++ (⟨#[32]⟩ : ByteArray)) ++ itoaT g) ++ (⟨#[32]⟩ : ByteArray)) ++ itoaT d = confT a b g d := by
  apply ba_ext
  simp [confT, wCfg, spL]
theorem dig_txt {n : Nat} (h : n < 10) : itoaT (n : Int) = ⟨#[UInt8.ofNat (48 + n)]⟩ := by
  unfold itoaT
  rw [itoa_nn (by omega), show ((n : Int)).toNat = n from by omega, Lib.decDigits, dif_pos h]
theorem conf_3102 : confT 3 1 0 2 = ⟨#[99, 111, 110, 102, 105, 103, 32, 51, 32, 49, 32, 48, 32, 50]⟩ := by
  have h3 := dig_txt (n := 3) (by decide)
  have h1 := dig_txt (n := 1) (by decide)
  have h0 := dig_txt (n := 0) (by decide)
  have h2 := dig_txt (n := 2) (by decide)
  unfold confT
  rw [show itoaT 3 = _ from h3, show itoaT 1 = _ from h1, show itoaT 0 = _ from h0, show itoaT 2 = _ from h2]
  rfl
theorem dec_neg {n : Int} (h : n < 0) : (⟨#[45]⟩ : ByteArray) ++ itoaT (-n) = itoaT n := by
  apply ba_ext
  rw [ByteArray.data_append, Array.toList_append, itoaT_list, itoaT_list]
  unfold Lib.itoa
  rw [if_neg (by omega), if_pos h, show (-n).toNat = n.natAbs from by omega]; rfl
theorem dec_one {n : Int} (h0 : ¬ n < 0) (h1 : n < 10) : strOf [48 + n] = itoaT n := by
  apply ba_ext
  rw [str_one, itoaT_list]
  unfold Lib.itoa
  rw [if_neg h0, Lib.decDigits, dif_pos (by omega), show (48 + n).toNat = 48 + n.toNat from by omega]
theorem dec_ten {n : Int} (h0 : ¬ n < 0) (h1 : ¬ n < 10) : itoaT (n.tdiv 10) ++ strOf [48 + n.tmod 10] = itoaT n := by
  have t1 : n.tdiv 10 = n / 10 := Int.tdiv_eq_ediv_of_nonneg (by omega)
  have t2 : n.tmod 10 = n % 10 := Int.tmod_eq_emod_of_nonneg (by omega)
  apply ba_ext
  rw [ByteArray.data_append, Array.toList_append, str_one, itoaT_list, itoaT_list, t1, t2]
  unfold Lib.itoa
  rw [if_neg (by omega), if_neg h0]
  conv => rhs; rw [Lib.decDigits]
  rw [dif_neg (by omega), show (n / 10).toNat = n.toNat / 10 from by omega, show (48 + n % 10).toNat = 48 + n.toNat % 10 from by omega]
theorem conf_zero {s : ByteArray} {c : GConfig} {n e : Int} (h : ConfR s c n e) (hn : ¬ IsConf s) : e = 82 := by
  rcases h with h | ⟨a, b, g, d, h1, h2, h3, h4, h5, _⟩
  · exact h.2.1
  · exact absurd ⟨a, b, g, d, h1, h2, h3, h4, h5⟩ hn
-- the words that are left
abbrev strc : ByteArray → List Go.Value := fun y => [.string y]
/-- A list of texts that is read, whatever block it lies in. -/
def Res.lst (g : Nat) (h : SlH) (ws : List ByteArray) : Res :=
  ⟨fun k => k = g, fun w => (0 < h.n → (adr h.a).block = g) ∧ SlR w h.a h.n (List.flatMap strc ws) ∧ h.n = ws.length ∧ h.n ≤ h.c ∧ h.c ≤ 8589934592, by
    rintro w w' hk ⟨h1, h2, h3⟩
    refine ⟨h1, ⟨?_, h2.some⟩, h3⟩
    by_cases h0 : 0 < h.n
    · exact h2.rd.keep fun _ => hk _ (h1 h0)
    · have : ws = [] := List.eq_nil_of_length_eq_zero (by omega)
      subst this
      intro j u hu; simp at hu⟩
theorem lst_slr {w : World} {g : Nat} {h : SlH} {ws : List ByteArray} (k : (Res.lst g h ws).holds w) : SlR w h.a h.n (List.flatMap strc ws) := k.2.1
theorem lst_len {w : World} {g : Nat} {h : SlH} {ws : List ByteArray} (k : (Res.lst g h ws).holds w) : h.n = ws.length ∧ h.n ≤ h.c ∧ h.c ≤ 8589934592 := k.2.2
theorem lst_tail {w : World} {g : Nat} {h : SlH} {ws : List ByteArray} (hn : 0 < h.n) (k : (Res.lst g h ws).holds w) : (Res.lst g ⟨slOff h.a h.c 1 1, h.n - 1, h.c - 1⟩ ws.tail).holds w := by
  obtain ⟨h1, h2, h3, h4, h5⟩ := k
  refine ⟨fun h0 => ?_, ?_, by rw [List.length_tail]; show h.n - 1 = _; omega, by show h.n - 1 ≤ h.c - 1; omega, by show h.c - 1 ≤ _; omega⟩
  · have := h1 hn
    show (adr (slOff h.a h.c 1 1)).block = g
    unfold slOff
    rw [if_neg (by have : 0 < h.n - 1 := h0; omega)]
    have hs := h2.some hn
    cases ha : h.a with
    | none => rw [ha] at hs; cases hs
    | some x =>
      rw [ha] at this
      show ((x.add (1 * 1))).block = g
      have : x.block = g := this
      unfold Addr.add; split <;> exact this
  · have := slr_drop (lo := 1) (c := h.c) (sz := 1) (fun _ => rfl) h3.symm h2 (by omega) h4
    rwa [List.drop_one] at this
theorem strc_map : ∀ ws : List ByteArray, List.flatMap strc ws = ws.map Go.Value.string
  | [] => rfl
  | x :: l => by rw [List.flatMap_cons, strc_map l]; rfl
theorem lst_row {w : World} {b n : Nat} {ws : List ByteArray} {t : TypeId} (hb : w.heap[b]? = some (.cells (ws.map Go.Value.string).toArray t (0, 0))) (hn : ws.length = n) (hs : n ≤ 8589934592) : (Res.lst b ⟨some ⟨b, 0, none⟩, n, n⟩ ws).holds w := by
  refine ⟨fun _ => rfl, ⟨fun j u hu => ?_, fun _ => rfl⟩, hn.symm, Nat.le_refl _, hs⟩
  show w.cell? ((⟨b, 0, none⟩ : Addr).add j) = some u
  rw [add_mk, Nat.zero_add]
  unfold World.cell?
  rw [strc_map] at hu
  simp only [hb]
  simpa using hu
end Go.Proofs.YtpmcjhjlajmljaaDoorRRRR.K
