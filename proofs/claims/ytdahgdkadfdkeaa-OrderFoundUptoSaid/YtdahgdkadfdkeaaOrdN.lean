/- An order that is taken is a path of linear's search, and a path is taken. -/
import Derived.Test.YtdahgdkadfdkeaaLinQ
import Derived.Test.YtdahgdkadfdkeaaOrdM
import Derived.Test.YtdahgdkadfdkeaaStbL
import Derived.Test.YtdahgdkadfdkeaaCoreY
namespace Go.Proofs.Ytdahgdkadfdkeaa.K
open Go Go.RowKit
set_option linter.unusedVariables false
theorem strOf_u8' {a : List Int} (ha : ∀ x ∈ a, 0 ≤ x ∧ x < 256) : strOf a = ⟨(a.map fun x => UInt8.ofNat x.toNat).toArray⟩ ∧ (a.map fun x => UInt8.ofNat x.toNat).map (fun b => (b.toNat : Int)) = a := by
  have h2 : (a.map fun x => UInt8.ofNat x.toNat).map (fun b => (b.toNat : Int)) = a := by
    rw [List.map_map]
    have : ∀ x ∈ a, ((fun b : UInt8 => (b.toNat : Int)) ∘ fun x : Int => UInt8.ofNat x.toNat) x = x := by
      intro x hx
      have := ha x hx
      simp only [Function.comp_apply, UInt8.toNat_ofNat']
      omega
    rw [List.map_congr_left this]
    simp
  exact ⟨by rw [← strOf_data, h2], h2⟩
theorem strOf_inj' {a b : List Int} (ha : ∀ x ∈ a, 0 ≤ x ∧ x < 256) (hb : ∀ x ∈ b, 0 ≤ x ∧ x < 256) (h : strOf a = strOf b) : a = b := by
  obtain ⟨h1, h2⟩ := strOf_u8' ha
  obtain ⟨h3, h4⟩ := strOf_u8' hb
  rw [h1, h3] at h
  have h5 : (a.map fun x => UInt8.ofNat x.toNat) = b.map fun x => UInt8.ofNat x.toNat := by
    have := congrArg (fun z : ByteArray => z.data.toList) h
    simpa using this
  rw [← h2, ← h4, h5]
def ByR (w : World) (l : List GCall) : Prop := ∀ x ∈ l, ∀ b ∈ bytesAt w x.Value, 0 ≤ b ∧ b < 256
theorem mustC_due {c : GCall} : mustC c ↔ dueP c := Iff.rfl
theorem fit_at {l : List GCall} (h : fitP l) {i : Nat} (hi : i < l.length) : 0 ≤ l[i]!.From ∧ ¬ (¬ l[i]!.To = -1 ∧ l[i]!.To ≤ l[i]!.From) ∧ (l[i]!.Open = true ↔ openP l[i]!) ∧ ¬ (openP l[i]! ∧ ¬ l[i]!.To = -1) := (h i hi).2
theorem fit_ok {l : List GCall} (h : fitP l) : ∀ j, j < l.length → okArg l[j]! := fun j hj => by
  obtain ⟨h1, h2, _⟩ := fit_at h hj
  unfold okArg; omega
/-- What must be in has returned. -/
theorem due_to {l : List GCall} (h : fitP l) {i : Nat} (hi : i < l.length) (hd : dueP l[i]!) : 0 ≤ l[i]!.To ∧ ¬ l[i]!.Open = true := by
  obtain ⟨h1, h2, h3, h4⟩ := fit_at h hi
  rcases hd with ⟨hp, ho⟩ | ⟨hp, ht, hs⟩
  · refine ⟨?_, ho⟩
    have : ¬ l[i]!.To = -1 := fun e => ho (h3.2 ⟨hp, .inl e⟩)
    omega
  · exact ⟨ht, fun ho => hp (h3.1 ho).1⟩
theorem open_part {l : List GCall} (h : fitP l) {i : Nat} (hi : i < l.length) : (dueP l[i]! ∨ l[i]!.Open = true) ↔ partC l[i]! := by
  obtain ⟨h1, h2, h3, h4⟩ := fit_at h hi
  constructor
  · rintro (hd | ho)
    · exact .inl hd
    · exact .inr (h3.1 ho).1
  · rintro (hd | hp)
    · exact .inl hd
    · by_cases ho : l[i]!.Open = true
      · exact .inr ho
      · exact .inl (.inl ⟨hp, ho⟩)
def natsO (o : List Int) : List Nat := o.map Int.toNat
def intsO (p : List Nat) : List Int := p.map fun (i : Nat) => (i : Int)
theorem natsO_get {o : List Int} {j : Nat} (h : j < o.length) : (natsO o)[j]! = (o[j]!).toNat := by
  unfold natsO
  rw [getElem!_pos (o.map Int.toNat) j (by simpa using h), List.getElem_map, bang_get h]
theorem intsO_get {p : List Nat} {j : Nat} (h : j < p.length) : (intsO p)[j]! = (p[j]! : Int) := by
  unfold intsO
  rw [bang_get (by simpa using h), List.getElem_map, getElem!_pos p j h]
theorem take_snoc {p : List Nat} {k : Nat} (h : k < p.length) : p.take (k + 1) = p.take k ++ [p[k]!] := by
  rw [List.take_succ_eq_append_getElem h, getElem!_pos p k h]
theorem take_mem {p : List Nat} {k x : Nat} (hk : k ≤ p.length) : x ∈ p.take k ↔ ∃ j, j < k ∧ p[j]! = x := by
  constructor
  · intro h
    obtain ⟨j, hj⟩ := List.getElem?_of_mem h
    have hjl := (List.getElem?_eq_some_iff.1 hj).1
    have hjk : j < k := by rw [List.length_take] at hjl; omega
    rw [List.getElem?_take_of_lt hjk, get_bang (by omega)] at hj
    exact ⟨j, hjk, Option.some.inj hj⟩
  · rintro ⟨j, hj, rfl⟩
    refine List.mem_of_getElem? (i := j) ?_
    rw [List.getElem?_take_of_lt hj, get_bang (by omega)]
/-- The steps of a path, one by one. -/
theorem path_at {val : SlH → ByteArray} {l : List GCall} {p : List Nat} : ∀ (k : Nat), k ≤ p.length → PathA val l (p.take k) (p.drop k) → (∀ j, k ≤ j → j < p.length → mayA val l (p.take j) p[j]!) ∧ doneA l p := by
  intro k hk
  obtain ⟨d, hd⟩ : ∃ d, p.length = k + d := ⟨p.length - k, by omega⟩
  induction d generalizing k with
  | zero =>
    intro h
    rw [List.drop_of_length_le (by omega), List.take_of_length_le (by omega)] at h
    exact ⟨fun j h1 h2 => by omega, h⟩
  | succ d ih =>
    intro h
    have hkl : k < p.length := by omega
    rw [List.drop_eq_getElem_cons hkl] at h
    obtain ⟨_, h2, h3⟩ := h
    rw [← getElem!_pos p k hkl] at h2 h3
    rw [← take_snoc hkl] at h3
    obtain ⟨h4, h5⟩ := ih (k + 1) hkl (by omega) h3
    refine ⟨fun j h6 h7 => ?_, h5⟩
    by_cases e : j = k
    · subst e; exact h2
    · exact h4 j (by omega) h7
theorem last_same {l : List GCall} {o : List Int} {p : List Nat} (ho : ∀ j, j < p.length → o[j]! = (p[j]! : Int)) : ∀ k, k ≤ p.length → lastF l o k = lastOf l (p.take k)
  | 0, _ => by simp [lastF, lastOf]
  | k + 1, hk => by
    have e : atO l o k = l[p[k]!]! := by unfold atO; rw [ho k (by omega)]; rfl
    rw [take_snoc (by omega), lastOf_snoc, lastF, e, ho k (by omega), last_same ho k (by omega)]
theorem begF_ge {l : List GCall} {o : List Int} {j : Nat} : ∀ k, j < k → (atO l o j).From ≤ begF l o k
  | 0, h => by omega
  | k + 1, h => by
    unfold begF
    by_cases e : j = k
    · subst e; omega
    · have := begF_ge (l := l) (o := o) k (by omega : j < k); omega
theorem begF_one {l : List GCall} {o : List Int} : ∀ k, begF l o k = -1 ∨ ∃ j, j < k ∧ begF l o k = (atO l o j).From
  | 0 => .inl rfl
  | k + 1 => by
    unfold begF
    by_cases h : begF l o k ≤ (atO l o k).From
    · exact .inr ⟨k, by omega, by omega⟩
    · rcases begF_one (l := l) (o := o) k with e | ⟨j, hj, e⟩
      · exact .inl (by omega)
      · exact .inr ⟨j, by omega, by omega⟩
theorem bytes_val {w : World} {l : List GCall} (hr : ByR w l) {i j : Nat} (hi : i < l.length) (hj : j < l.length) : valAt w l[i]!.Value = valAt w l[j]!.Value ↔ bytesAt w l[i]!.Value = bytesAt w l[j]!.Value := by
  constructor
  · exact strOf_inj' (hr _ (List.mem_of_getElem? (get_bang hi))) (hr _ (List.mem_of_getElem? (get_bang hj)))
  · intro h; unfold valAt; rw [h]
theorem path_taken {w : World} {l : List GCall} {p : List Nat} (hf : fitP l) (hr : ByR w l) (h : PathA (valAt w) l [] p) : chkO w l (intsO p) = 0 := by
  obtain ⟨hm, hd⟩ := path_at (k := 0) (Nat.zero_le _) (by simpa using h)
  have hlen : (intsO p).length = p.length := by simp [intsO]
  have hget : ∀ j, j < p.length → (intsO p)[j]! = (p[j]! : Int) := fun j hj => intsO_get hj
  have hat : ∀ j, j < p.length → atO l (intsO p) j = l[p[j]!]! := fun j hj => by unfold atO; rw [hget j hj]; rfl
  have hlt : ∀ j, j < p.length → p[j]! < l.length := fun j hj => (hm j (Nat.zero_le _) hj).1
  have hne : ∀ i j, i < j → j < p.length → ¬ p[i]! = p[j]! := fun i j hij hj e => (hm j (Nat.zero_le _) hj).2.2.1 ((take_mem (by omega)).2 ⟨i, hij, e⟩)
  have hpt : ∀ j, j < p.length → dueP l[p[j]!]! ∨ l[p[j]!]!.Open = true := fun j hj => (open_part hf (hlt j hj)).2 (hm j (Nat.zero_le _) hj).2.1
  refine chkO_0 hf ⟨fun j hj => ?_, fun i hi hdu => ?_⟩ (fun j hj => ?_) (fun j hj => ?_)
  · rw [hlen] at hj
    refine ⟨by rw [hget j hj]; omega, by rw [hget j hj]; have := hlt j hj; omega, by rw [hat j hj]; exact hpt j hj, fun i hi e => ?_⟩
    rw [hget i (by omega), hget j hj] at e
    exact hne i j hi hj (by omega)
  · have := hd i hi hdu
    obtain ⟨j, hj⟩ := List.getElem?_of_mem this
    have hjl := (List.getElem?_eq_some_iff.1 hj).1
    rw [get_bang hjl] at hj
    exact ⟨j, by rw [hlen]; exact hjl, by rw [hget j hjl, Option.some.inj hj]⟩
  · rw [hlen] at hj
    rw [hat j hj]
    rintro ⟨ho, hlt2⟩
    have hdu : dueP l[p[j]!]! := by
      rcases hpt j hj with q | q
      · exact q
      · exact absurd q ho
    have h0 := (due_to hf (hlt j hj) hdu).1
    rcases begF_one (l := l) (o := intsO p) j with e | ⟨i, hi, e⟩
    · omega
    · rw [e, hat i (by omega)] at hlt2
      have hin := (hm i (Nat.zero_le _) (by omega)).2.2.2.1 p[j]! (hlt j hj) ⟨hdu, h0, hlt2, fun q => hne i j hi hj q.symm⟩
      obtain ⟨y, hy, ey⟩ := (take_mem (by omega)).1 hin
      exact hne y j (by omega) hj ey
  · rw [hlen] at hj
    intro hp
    rw [hat j hj] at hp ⊢
    rw [last_same hget j (by omega)]
    have hmy := hm j (Nat.zero_le _) hj
    rcases hmy.2.2.2.2 with q | q
    · exact absurd q hp
    · unfold explP at q
      refine ⟨fun z => ?_, fun z => ?_⟩
      · rw [if_pos z.1] at q; omega
      · rw [if_neg (by rw [z]; decide)] at q
        obtain ⟨q1, y, q2, q3⟩ := q
        have hyl := (List.getElem?_eq_some_iff.1 q2).1
        rw [get_bang hyl] at q2
        cases q2
        exact ⟨q1, ((bytes_val hr hyl (hlt j hj)).1 q3).symm⟩
theorem taken_path {w : World} {l : List GCall} {o : List Int} (hr : ByR w l) (h : chkO w l o = 0) : ∃ p, PathA (valAt w) l [] p := by
  have hf : fitP l := Classical.byContradiction fun q => by rw [chkO_1 q] at h; cases h
  have hall : wholeP l o ∧ timelyP l o ∧ toldP w l o := Classical.byContradiction fun q => by rw [chkO_81 hf q] at h; cases h
  obtain ⟨hw, ht, hto⟩ := hall
  have hlen : (natsO o).length = o.length := by simp [natsO]
  have hget : ∀ j, j < (natsO o).length → o[j]! = ((natsO o)[j]! : Int) := fun j hj => by
    rw [hlen] at hj
    rw [natsO_get hj]; have := (hw.1 j hj).1; omega
  have hlt : ∀ j, j < (natsO o).length → (natsO o)[j]! < l.length := fun j hj => by
    have h2 := (hw.1 j (by omega)).2.1
    rw [hget j hj] at h2; omega
  have hat : ∀ j, j < (natsO o).length → atO l o j = l[(natsO o)[j]!]! := fun j hj => by unfold atO; rw [hget j hj]; rfl
  have hne : ∀ i j, i < j → j < (natsO o).length → ¬ (natsO o)[i]! = (natsO o)[j]! := fun i j hij hj e => (hw.1 j (by omega)).2.2.2 i hij (by rw [hget i (by omega), hget j hj, e])
  have hdone : ∀ i, i < l.length → dueP l[i]! → ∃ j, j < (natsO o).length ∧ (natsO o)[j]! = i := fun i hi hd => by
    obtain ⟨j, hj, e⟩ := hw.2 i hi hd
    exact ⟨j, by omega, by rw [hget j (by omega)] at e; omega⟩
  have key : ∀ d k, (natsO o).length = k + d → ∃ p, PathA (valAt w) l ((natsO o).take k) p := by
    intro d
    induction d with
    | zero =>
      intro k hk
      refine ⟨[], fun i hi hm => ?_⟩
      obtain ⟨j, hj, e⟩ := hdone i hi hm
      exact (take_mem (by omega)).2 ⟨j, by omega, e⟩
    | succ d ih =>
      intro k hk
      have hkl : k < (natsO o).length := by omega
      by_cases hdn : doneA l ((natsO o).take k)
      · exact ⟨[], hdn⟩
      · obtain ⟨p, hp⟩ := ih (k + 1) (by omega)
        rw [take_snoc hkl] at hp
        refine ⟨(natsO o)[k]! :: p, hdn, ⟨hlt k hkl, ?_, ?_, ?_, ?_⟩, hp⟩
        · have := (hw.1 k (by omega)).2.2.1
          rw [hat k hkl] at this
          exact (open_part hf (hlt k hkl)).1 this
        · intro hm
          obtain ⟨j, hj, e⟩ := (take_mem (by omega)).1 hm
          exact hne j k hj hkl e
        · rintro j hj ⟨hb1, hb2, hb3, hb4⟩
          obtain ⟨y, hy, ey⟩ := hdone j hj hb1
          refine (take_mem (by omega)).2 ⟨y, ?_, ey⟩
          apply Classical.byContradiction
          intro hyk
          have hyk2 : k < y := by
            rcases Nat.lt_trichotomy y k with q | q | q
            · exact absurd q hyk
            · subst q; exact absurd ey.symm hb4
            · exact q
          have h1 := ht y (by omega)
          rw [hat y hy, ey] at h1
          have h2 := begF_ge (l := l) (o := o) y hyk2
          rw [hat k hkl] at h2
          exact h1 ⟨(due_to hf hj hb1).2, by omega⟩
        · have hpp := (hw.1 k (by omega)).2.2.1
          rw [hat k hkl] at hpp
          by_cases hput : l[(natsO o)[k]!]!.Put = true
          · exact .inl hput
          · have h3 := hto k (by omega) (by rw [hat k hkl]; exact hput)
            rw [hat k hkl, last_same hget k (by omega)] at h3
            have hdu : dueP l[(natsO o)[k]!]! := by
              rcases hpp with q | q
              · exact q
              · exact absurd ((fit_at hf (hlt k hkl)).2.2.1.1 q).1 hput
            refine .inr ?_
            unfold explP
            rcases hdu with q | ⟨_, _, q⟩
            · exact absurd q.1 hput
            · by_cases e : l[(natsO o)[k]!]!.Status = 76
              · rw [if_pos e]
                have := h3.1
                exact Int.not_le.1 fun z => this ⟨e, z⟩
              · rw [if_neg e]
                have e0 : l[(natsO o)[k]!]!.Status = 0 := by omega
                obtain ⟨h5, h6⟩ := h3.2 e0
                have hin : ∀ j, j < o.length → 0 ≤ o[j]! ∧ o[j]! < (l.length : Int) := fun j hj => ⟨(hw.1 j hj).1, (hw.1 j hj).2.1⟩
                have h7 := lastF_in hin k (by omega)
                rw [last_same hget k (by omega)] at h7
                have h8 := h7.2 h5
                refine ⟨h5, _, get_bang (by omega), ?_⟩
                exact (bytes_val hr (by omega) (hlt k hkl)).2 h6.symm
  exact (by simpa using key (natsO o).length 0 (by omega))
theorem ByR.at {w w' : World} {l : List GCall} (h : ByR w l) (hv : ∀ y ∈ l, VB w y.Value) (hf : Fram Non w w') : ByR w' l := fun x hx b hb => h x hx b (by rwa [VB.fram (hv x hx) hf] at hb)
theorem found_taken {w wc w2 : World} {l : List GCall} {xs : List Nat} {ok : Bool} {e : Int} (hf : fitP l) (hr : ByR w l) (hv : ∀ y ∈ l, VB w y.Value) (h : oneR (valAt wc) l xs ok e) (he : e = 0) (hok : ok = true) (f1 : Fram Non w wc) (f2 : Fram Non w w2) : chkO w2 l (intsO xs) = 0 := by
  rw [chkO_fram f2 hv, ← chkO_fram f1 hv]
  rcases h with ⟨_, q, _⟩ | ⟨_, _, q, _⟩ | ⟨_, _, _, ⟨_, q⟩ | ⟨q, _⟩⟩
  · omega
  · omega
  · exact path_taken hf (hr.at hv f1) ((best_all _).1 q).1
  · rw [hok] at q; cases q
theorem none_taken {w wc w2 : World} {l : List GCall} {xs : List Nat} {ok : Bool} {e : Int} (hf : fitP l) (hr : ByR w l) (hv : ∀ y ∈ l, VB w y.Value) (h : oneR (valAt wc) l xs ok e) (he : e = 0) (hok : ¬ ok = true) (f1 : Fram Non w wc) (f2 : Fram Non w w2) (o : List Int) : chkO w2 l o = 81 := by
  rw [chkO_fram f2 hv, ← chkO_fram f1 hv]
  rcases h with ⟨_, q, _⟩ | ⟨_, _, q, _⟩ | ⟨_, _, _, ⟨q, _⟩ | ⟨_, _, q⟩⟩
  · omega
  · omega
  · exact absurd q hok
  · have hb := bad_all_iff.1 q
    refine chkO_81 hf fun z => ?_
    obtain ⟨p, hp⟩ := taken_path (w := wc) (l := l) (o := o) (hr.at hv f1) (chkO_0 hf z.1 z.2.1 z.2.2)
    exact hb p hp
theorem flat_nats (l : List Nat) : List.flatMap (fun (y : Nat) => [Go.Value.int .i64 (y : Int)]) l = List.flatMap (fun (y : Int) => [Go.Value.int .i64 y]) (intsO l) := by
  unfold intsO
  rw [List.flatMap_map]
theorem byr_of {w : World} {Bn : Nat} {s : SlH} {l : List Int} (h : SlD w u8c (fun y => Rng .u8 y) Bn s l) : ∀ b ∈ bytesAt w s, 0 ≤ b ∧ b < 256 := by
  intro b hb
  rw [bytesAt_of (ns := l) h.rd h.len.symm] at hb
  have := h.all b hb
  obtain ⟨h1, h2⟩ := this
  simp [IntKind.min, IntKind.max, IntKind.signed, IntKind.bits] at h1 h2
  omega
theorem own_max {w : World} {E : TypeId} {n c sz : Nat} {a : Option Addr} {xs : List Value} (h : (Res.own E sz (.slice a n c) n xs).holds w) : n ≤ 9223372036854775807 := by
  obtain ⟨_, h | ⟨g, cap, cur, hv, _, _, h1, h2, _⟩⟩ := h
  · omega
  · simp only [Value.slice.injEq] at hv
    have : cap ≤ maxLen := h2
    unfold maxLen at this
    omega
theorem one_err {val : SlH → ByteArray} {l : List GCall} {xs : List Nat} {ok : Bool} {e : Int} (hf : fitP l) (h : oneR val l xs ok e) : e = 0 ∨ e = 4 := by
  rcases h with ⟨⟨j, hj, q⟩, _⟩ | ⟨_, _, q, _⟩ | ⟨_, _, q, _⟩
  · exact absurd (fit_ok hf j hj) q
  · exact .inr q
  · exact .inl q
theorem chkO_fit {w : World} {l : List GCall} {o : List Int} (h : ¬ chkO w l o = 1) : fitP l := Classical.byContradiction fun q => h (chkO_1 q)
end Go.Proofs.Ytdahgdkadfdkeaa.K
