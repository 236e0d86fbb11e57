/- Steps and their lines, texts and their lines: the plain law. -/
import Derived.Test.YtbpedjefoajegaaDoorWrdL
import Derived.Lib.Join
namespace Go.Proofs.YtbpedjefoajegaaDoor.K
open Go Go.RowKit
set_option linter.unusedVariables false
set_option linter.unusedSimpArgs false
structure StepP where
  (Kind A B : Int) (Key Value : ByteArray) (L : List Int)
def kWord (k : Int) : ByteArray :=
  if k = 1 then ⟨#[112, 117, 116]⟩ else if k = 2 then ⟨#[103, 101, 116]⟩ else if k = 3 then ⟨#[99, 97, 110, 99, 101, 108]⟩ else if k = 4 then ⟨#[116, 105, 99, 107]⟩
  else if k = 5 then ⟨#[115, 116, 111, 112]⟩ else if k = 6 then ⟨#[100, 101, 108, 105, 118, 101, 114]⟩ else if k = 7 then ⟨#[100, 114, 111, 112]⟩ else if k = 8 then ⟨#[100, 111, 117, 98, 108, 101]⟩
  else if k = 9 then ⟨#[98, 117, 114, 115, 116]⟩ else if k = 10 then ⟨#[99, 117, 116]⟩ else if k = 11 then ⟨#[108, 111, 115, 101]⟩ else if k = 12 then ⟨#[99, 114, 97, 115, 104]⟩
  else if k = 13 then ⟨#[115, 116, 97, 114, 116]⟩ else if k = 14 then ⟨#[100, 105, 101]⟩ else if k = 15 then ⟨#[99, 111, 109, 112, 97, 99, 116]⟩ else if k = 16 then ⟨#[114, 111, 117, 110, 100]⟩ else ⟨#[]⟩
def kA (k : Int) : Bool := !decide (k = 16)
def kB (k : Int) : Bool := decide (k = 9) || decide (k = 10) || decide (k = 14) || decide (k = 16)
def kK (k : Int) : Bool := decide (k = 1) || decide (k = 2)
def kV (k : Int) : Bool := decide (k = 1)
def kL (k : Int) : Bool := decide (k = 9) || decide (k = 12) || decide (k = 14) || decide (k = 16)
def kOf (w : ByteArray) : Int :=
  if w = ⟨#[]⟩ then 0 else if w = kWord 1 then 1 else if w = kWord 2 then 2 else if w = kWord 3 then 3 else if w = kWord 4 then 4 else if w = kWord 5 then 5 else if w = kWord 6 then 6 else if w = kWord 7 then 7 else if w = kWord 8 then 8
  else if w = kWord 9 then 9 else if w = kWord 10 then 10 else if w = kWord 11 then 11 else if w = kWord 12 then 12 else if w = kWord 13 then 13 else if w = kWord 14 then 14 else if w = kWord 15 then 15 else if w = kWord 16 then 16 else -1
theorem kcases {k : Int} (h : 1 ≤ k ∧ k ≤ 16) : k = 1 ∨ k = 2 ∨ k = 3 ∨ k = 4 ∨ k = 5 ∨ k = 6 ∨ k = 7 ∨ k = 8 ∨ k = 9 ∨ k = 10 ∨ k = 11 ∨ k = 12 ∨ k = 13 ∨ k = 14 ∨ k = 15 ∨ k = 16 := by omega
theorem kOf_word {k : Int} (h : 1 ≤ k ∧ k ≤ 16) : kOf (kWord k) = k := by
  rcases kcases h with rfl | rfl | rfl | rfl | rfl | rfl | rfl | rfl | rfl | rfl | rfl | rfl | rfl | rfl | rfl | rfl <;> decide +kernel
theorem kOf_rng (w : ByteArray) : -1 ≤ kOf w ∧ kOf w ≤ 16 := by
  unfold kOf; repeat' split
  all_goals omega
/-- What a step may be. -/
def okS (x : StepP) : Prop := (1 ≤ x.Kind ∧ x.Kind ≤ 16) ∧ (kA x.Kind = false → x.A = 0) ∧ (kB x.Kind = false → x.B = 0) ∧ (kK x.Kind = false → x.Key = ⟨#[]⟩) ∧ (kV x.Kind = false → x.Value.size = 0) ∧
  (x.Kind = 9 → x.L.length = 1 ∧ 0 ≤ x.L[0]! ∧ x.L[0]! ≤ 4294967295) ∧ (kL x.Kind = false → x.L.length = 0)
def inS (x : StepP) : Prop := inI x.A ∧ inI x.B ∧ ∀ n ∈ x.L, inI n
open Classical in
noncomputable def chkI (x : StepP) : Int := if ¬ (1 ≤ x.Kind ∧ x.Kind ≤ 16) then 32 else if okS x then 0 else 1
theorem chk_32 {x : StepP} (h : ¬ (1 ≤ x.Kind ∧ x.Kind ≤ 16)) : chkI x = 32 := by unfold chkI; rw [if_pos h]
theorem chk_0 {x : StepP} (h : okS x) : chkI x = 0 := by unfold chkI; rw [if_neg (fun q => q h.1), if_pos h]
theorem chk_1 {x : StepP} (h1 : 1 ≤ x.Kind ∧ x.Kind ≤ 16) (h : ¬ okS x) : chkI x = 1 := by unfold chkI; rw [if_neg (fun q => q h1), if_neg h]
theorem chk_ok {x : StepP} (h : chkI x = 0) : okS x := by
  unfold chkI at h
  split at h
  · omega
  · split at h
    · assumption
    · omega
theorem chk_rng (x : StepP) : 0 ≤ chkI x ∧ chkI x ≤ 32 := by unfold chkI; repeat' split <;> omega
/-! ### bytes as digits -/
def hexD (n : Nat) : UInt8 := if n < 10 then UInt8.ofNat (48 + n) else UInt8.ofNat (87 + n)
def hexL (l : List UInt8) : List UInt8 := l.flatMap fun b => [hexD (b.toNat / 16), hexD (b.toNat % 16)]
def hexT (b : ByteArray) : ByteArray := if b.data.toList = [] then ⟨#[45]⟩ else ⟨(hexL b.data.toList).toArray⟩
theorem hexD_in : ∀ n, n < 16 → (hexD n).toNat = if n < 10 then 48 + n else 87 + n := by decide
theorem hexD_inj {a b : Nat} (ha : a < 16) (hb : b < 16) (h : hexD a = hexD b) : a = b := by
  have h1 := hexD_in a ha
  have h2 := hexD_in b hb
  rw [h] at h1
  rw [h1] at h2
  split at h2 <;> split at h2 <;> omega
theorem hexL_len : ∀ l : List UInt8, (hexL l).length = 2 * l.length
  | [] => rfl
  | b :: l => by
    have := hexL_len l
    unfold hexL at *
    rw [List.flatMap_cons, List.length_append, this, List.length_cons]
    simp only [List.length_cons, List.length_nil]; omega
theorem hexL_inj : ∀ {a b : List UInt8}, hexL a = hexL b → a = b
  | [], [], _ => rfl
  | [], _ :: _, h => by have := congrArg List.length h; rw [hexL_len, hexL_len] at this; simp at this
  | _ :: _, [], h => by have := congrArg List.length h; rw [hexL_len, hexL_len] at this; simp at this
  | x :: a, y :: b, h => by
    unfold hexL at h
    rw [List.flatMap_cons, List.flatMap_cons] at h
    simp only [List.cons_append, List.nil_append, List.cons.injEq] at h
    have h1 := hexD_inj (by have := x.toNat_lt; omega) (by have := y.toNat_lt; omega) h.1
    have h2 := hexD_inj (by omega) (by omega) h.2.1
    have e : x = y := UInt8.toNat_inj.1 (by omega)
    rw [e, hexL_inj (a := a) (b := b) h.2.2]
theorem hexL_chars : ∀ (l : List UInt8), ∀ c ∈ hexL l, (48 ≤ c.toNat ∧ c.toNat ≤ 57) ∨ (97 ≤ c.toNat ∧ c.toNat ≤ 102) := by
  intro l c hc
  unfold hexL at hc
  obtain ⟨b, _, hb⟩ := List.mem_flatMap.1 hc
  have hlt := b.toNat_lt
  have key : ∀ n, n < 16 → (48 ≤ (hexD n).toNat ∧ (hexD n).toNat ≤ 57) ∨ (97 ≤ (hexD n).toNat ∧ (hexD n).toNat ≤ 102) := fun n hn => by
    rw [hexD_in n hn]; split <;> omega
  rcases List.mem_cons.1 hb with rfl | hb
  · exact key _ (by omega)
  · rw [List.mem_singleton] at hb; subst hb
    exact key _ (by omega)
theorem hexT_chars (b : ByteArray) : ∀ c ∈ (hexT b).data.toList, c ≠ 32 ∧ c ≠ 10 := by
  intro c hc
  unfold hexT at hc
  split at hc
  · simp at hc; subst hc; decide
  · simp only [List.toList_toArray] at hc
    have := hexL_chars _ c hc
    constructor <;> rintro rfl <;> revert this <;> decide
theorem hexT_inj {a b : ByteArray} (h : hexT a = hexT b) : a = b := by
  unfold hexT at h
  have hd : ∀ x : ByteArray, (⟨#[45]⟩ : ByteArray) ≠ ⟨(hexL x.data.toList).toArray⟩ := fun x e => by
    have e2 := congrArg (fun y : ByteArray => y.data.toList) e
    simp only [List.toList_toArray] at e2
    have := hexL_chars x.data.toList 45 (by rw [← e2]; simp)
    revert this; decide
  split at h
  · split at h
    · rename_i h1 h2; exact ba_ext (h1.trans h2.symm)
    · exact absurd h (hd _)
  · split at h
    · exact absurd h.symm (hd _)
    · have e2 := congrArg (fun y : ByteArray => y.data.toList) h
      simp only [List.toList_toArray] at e2
      exact ba_ext (hexL_inj e2)
/-! ### lines -/
def wordsS (x : StepP) : List ByteArray := kWord x.Kind :: ((if kA x.Kind then [itoaT x.A] else []) ++ ((if kB x.Kind then [itoaT x.B] else []) ++ ((if kK x.Kind then [hexT x.Key] else []) ++ ((if kV x.Kind then [hexT x.Value] else []) ++ x.L.map itoaT))))
def joinB (ws : List ByteArray) : ByteArray := ⟨(Lib.join (ws.map (·.data.toList)) [32]).toArray⟩
def lineS (x : StepP) : ByteArray := joinB (wordsS x)
theorem joinB_one (x : ByteArray) : joinB [x] = x := by unfold joinB; apply ba_ext; simp [Lib.join_one]
theorem joinB_cons (x y : ByteArray) (r : List ByteArray) : joinB (x :: y :: r) = x ++ (spL ++ joinB (y :: r)) := by
  apply ba_ext
  unfold joinB
  simp only [List.map_cons, ByteArray.data_append, Array.toList_append, List.toList_toArray]
  rw [Lib.join_cons, Lib.join_cons]
  simp [Lib.joinTail, spL]
theorem words_join : ∀ (ws : List ByteArray), ws ≠ [] → (∀ x ∈ ws, noSp x) → wordsB (joinB ws) = ws
  | [], h, _ => absurd rfl h
  | [x], _, h => by rw [joinB_one]; exact words_one (h x (by simp))
  | x :: y :: r, _, h => by
    rw [joinB_cons, words_cons (h x (by simp)), words_join (y :: r) (by simp) fun z hz => h z (by simp [hz])]
/-- No blank and no end of a line. -/
def plainW (x : ByteArray) : Prop := ∀ c ∈ x.data.toList, c ≠ 32 ∧ c ≠ 10
theorem plain_nosp {x : ByteArray} (h : plainW x) : noSp x := fun q => (h 32 q).1 rfl
theorem itoa_plain (n : Int) : plainW (itoaT n) := by
  intro c hc
  rw [itoaT_list] at hc
  rcases itoa_chars.1 c hc with q | q
  · subst q; decide
  · constructor <;> rintro rfl <;> revert q <;> decide
theorem word_plain {k : Int} (h : 1 ≤ k ∧ k ≤ 16) : plainW (kWord k) ∧ kWord k ≠ ⟨#[]⟩ := by
  have key : ∀ k : Int, ((kWord k).data.toList.all fun c => decide (c ≠ 32 ∧ c ≠ 10)) = true → plainW (kWord k) := fun k q c hc => by
    have := List.all_eq_true.1 q c hc
    simpa using this
  rcases kcases h with rfl | rfl | rfl | rfl | rfl | rfl | rfl | rfl | rfl | rfl | rfl | rfl | rfl | rfl | rfl | rfl <;> exact ⟨key _ (by decide +kernel), by decide +kernel⟩
theorem wordsS_plain {x : StepP} (h : 1 ≤ x.Kind ∧ x.Kind ≤ 16) : ∀ y ∈ wordsS x, plainW y := by
  intro y hy
  unfold wordsS at hy
  simp only [List.mem_cons, List.mem_append, List.mem_map] at hy
  rcases hy with rfl | hy | hy | hy | hy | ⟨n, _, rfl⟩
  · exact (word_plain h).1
  · split at hy
    · rw [List.mem_singleton] at hy; subst hy; exact itoa_plain _
    · cases hy
  · split at hy
    · rw [List.mem_singleton] at hy; subst hy; exact itoa_plain _
    · cases hy
  · split at hy
    · rw [List.mem_singleton] at hy; subst hy; exact hexT_chars _
    · cases hy
  · split at hy
    · rw [List.mem_singleton] at hy; subst hy; exact hexT_chars _
    · cases hy
  · exact itoa_plain _
theorem words_line {x : StepP} (h : 1 ≤ x.Kind ∧ x.Kind ≤ 16) : wordsB (lineS x) = wordsS x := words_join _ (by unfold wordsS; simp) fun y hy => plain_nosp (wordsS_plain h y hy)
theorem join_chars : ∀ (ws : List ByteArray), (∀ x ∈ ws, plainW x) → ∀ c ∈ (joinB ws).data.toList, c ≠ 10
  | [], _, c, hc => by unfold joinB at hc; simp [Lib.join_nil] at hc
  | [x], h, c, hc => by rw [joinB_one] at hc; exact (h x (by simp) c hc).2
  | x :: y :: r, h, c, hc => by
    rw [joinB_cons] at hc
    simp only [ByteArray.data_append, Array.toList_append, List.mem_append] at hc
    rcases hc with hc | hc | hc
    · exact (h x (by simp) c hc).2
    · simp [spL] at hc; subst hc; decide
    · exact join_chars (y :: r) (fun z hz => h z (by simp [hz])) c hc
theorem line_chars {x : StepP} (h : 1 ≤ x.Kind ∧ x.Kind ≤ 16) : ∀ c ∈ (lineS x).data.toList, c ≠ 10 := join_chars _ (wordsS_plain h)
theorem line_ne {x : StepP} (h : 1 ≤ x.Kind ∧ x.Kind ≤ 16) : (lineS x).data.toList ≠ [] := by
  intro e
  have hw := (word_plain h).2
  have e2 : lineS x = ⟨#[]⟩ := ba_ext (by rw [e])
  have e3 := words_line h
  rw [e2, show wordsB (⟨#[]⟩ : ByteArray) = [⟨#[]⟩] from words_one (by unfold noSp; simp)] at e3
  unfold wordsS at e3
  simp only [List.cons.injEq] at e3
  exact hw e3.1.symm
/-! ### a line that is read -/
structure BytR (bad : Bool) (ws : List ByteArray) (v : ByteArray) (b' : Bool) : Prop where
  le : v.size ≤ (ws.headD ByteArray.empty).size
  yes : ∀ t b, bad = false → ws.head? = some t → t = hexT b → b' = false ∧ v = b
structure RunR (bad : Bool) (ws : List ByteArray) (l : List Int) (b' : Bool) : Prop where
  rng : ∀ n ∈ l, inI n
  yes : ∀ ns : List Int, (∀ n ∈ ns, inI n) → bad = false → ws = ns.map itoaT → b' = false ∧ l = ns
def Opt (c : Bool) (P Q : Prop) : Prop := (c = true → P) ∧ (c = false → Q)
theorem Opt.t {P Q : Prop} {c : Bool} (h : c = true) (p : P) : Opt c P Q := ⟨fun _ => p, fun q => absurd (h.symm.trans q) (by decide)⟩
theorem Opt.f {P Q : Prop} {c : Bool} (h : c = false) (p : Q) : Opt c P Q := ⟨fun q => absurd (h.symm.trans q) (by decide), fun _ => p⟩
theorem read_ok {k : Int} {line : ByteArray} {w0 w1 w2 w3 w4 : List ByteArray} {b0 b1 b2 b3 b4 b5 : Bool} {vA vB : Int} {key val : ByteArray} {l : List Int}
    (h0 : b0 = (false || (wordsB line).isEmpty)) (e0 : w0 = (wordsB line).tail)
    (hA : Opt (kA k) (NumR b0 w0 vA b1 ∧ w1 = w0.tail) (vA = 0 ∧ b1 = b0 ∧ w1 = w0)) (hB : Opt (kB k) (NumR b1 w1 vB b2 ∧ w2 = w1.tail) (vB = 0 ∧ b2 = b1 ∧ w2 = w1))
    (hK : Opt (kK k) (BytR b2 w2 key b3 ∧ w3 = w2.tail) (key = ⟨#[]⟩ ∧ b3 = b2 ∧ w3 = w2)) (hV : Opt (kV k) (BytR b3 w3 val b4 ∧ w4 = w3.tail) (val = ⟨#[]⟩ ∧ b4 = b3 ∧ w4 = w3))
    (hL : RunR b4 w4 l b5) {y : StepP} (ok : okS y) (hi : inS y) (hk : y.Kind = k) (he : lineS y = line) : b5 = false ∧ (⟨k, vA, vB, key, val, l⟩ : StepP) = y := by
  obtain ⟨K, A, B, Ky, V, L⟩ := y
  obtain ⟨i1, i2, i3⟩ := hi
  simp only at hk i1 i2 i3
  subst hk
  have hw := words_line ok.1
  rw [he] at hw
  rw [hw] at h0 e0
  unfold wordsS at h0 e0
  simp only [List.isEmpty_cons, Bool.or_false, List.tail_cons] at h0 e0
  obtain ⟨_, oA, oB, oK, oV, _, _⟩ := ok
  simp only at oA oB oK oV
  have sA : b1 = false ∧ vA = A ∧ w1 = (if kB K then [itoaT B] else []) ++ ((if kK K then [hexT Ky] else []) ++ ((if kV K then [hexT V] else []) ++ L.map itoaT)) := by
    cases hc : kA K with
    | true =>
      rw [hc] at e0
      obtain ⟨n, q⟩ := hA.1 hc
      obtain ⟨p1, p2⟩ := n.yes (itoaT A) A h0 (by rw [e0]; rfl) (atoi_back i1.1 i1.2)
      exact ⟨p1, p2, by rw [q, e0]; rfl⟩
    | false =>
      rw [hc] at e0
      obtain ⟨p1, p2, p3⟩ := hA.2 hc
      exact ⟨p2.trans h0, p1.trans (oA hc).symm, by rw [p3, e0]; rfl⟩
  obtain ⟨z1, rfl, e1⟩ := sA
  have sB : b2 = false ∧ vB = B ∧ w2 = (if kK K then [hexT Ky] else []) ++ ((if kV K then [hexT V] else []) ++ L.map itoaT) := by
    cases hc : kB K with
    | true =>
      rw [hc] at e1
      obtain ⟨n, q⟩ := hB.1 hc
      obtain ⟨p1, p2⟩ := n.yes (itoaT B) B z1 (by rw [e1]; rfl) (atoi_back i2.1 i2.2)
      exact ⟨p1, p2, by rw [q, e1]; rfl⟩
    | false =>
      rw [hc] at e1
      obtain ⟨p1, p2, p3⟩ := hB.2 hc
      exact ⟨p2.trans z1, p1.trans (oB hc).symm, by rw [p3, e1]; rfl⟩
  obtain ⟨z2, rfl, e2⟩ := sB
  have sK : b3 = false ∧ key = Ky ∧ w3 = (if kV K then [hexT V] else []) ++ L.map itoaT := by
    cases hc : kK K with
    | true =>
      rw [hc] at e2
      obtain ⟨n, q⟩ := hK.1 hc
      obtain ⟨p1, p2⟩ := n.yes (hexT Ky) Ky z2 (by rw [e2]; rfl) rfl
      exact ⟨p1, p2, by rw [q, e2]; rfl⟩
    | false =>
      rw [hc] at e2
      obtain ⟨p1, p2, p3⟩ := hK.2 hc
      exact ⟨p2.trans z2, p1.trans (oK hc).symm, by rw [p3, e2]; rfl⟩
  obtain ⟨z3, rfl, e3⟩ := sK
  have sV : b4 = false ∧ val = V ∧ w4 = L.map itoaT := by
    cases hc : kV K with
    | true =>
      rw [hc] at e3
      obtain ⟨n, q⟩ := hV.1 hc
      obtain ⟨p1, p2⟩ := n.yes (hexT V) V z3 (by rw [e3]; rfl) rfl
      exact ⟨p1, p2, by rw [q, e3]; rfl⟩
    | false =>
      rw [hc] at e3
      obtain ⟨p1, p2, p3⟩ := hV.2 hc
      have hv0 : V = ⟨#[]⟩ := ba_ext (by
        have := oV hc
        rw [size_list] at this
        exact List.eq_nil_of_length_eq_zero this)
      exact ⟨p2.trans z3, p1.trans hv0.symm, by rw [p3, e3]; rfl⟩
  obtain ⟨z4, rfl, e4⟩ := sV
  obtain ⟨p1, p2⟩ := hL.yes L i3 z4 e4
  exact ⟨p1, by rw [p2]⟩
/-- What is read so far of the numbers. -/
def RnI (b0 : Bool) (ws0 : List ByteArray) (l : List Int) (bad : Bool) : Prop := (∀ n ∈ l, inI n) ∧ ∀ ns : List Int, (∀ n ∈ ns, inI n) → b0 = false → ws0 = ns.map itoaT → bad = false ∧ l = ns.take l.length
theorem rn_start (b0 : Bool) (ws0 : List ByteArray) : RnI b0 ws0 [] b0 := ⟨fun n hn => (by cases hn), fun ns _ h _ => ⟨h, rfl⟩⟩
theorem rn_step {b0 bad b' : Bool} {ws0 wz : List ByteArray} {l : List Int} {v : Int} (h : RnI b0 ws0 l bad) (hw : wz = ws0.drop l.length) (hn : NumR bad wz v b') (h0 : 0 < wz.length) : RnI b0 ws0 (l ++ [v]) b' := by
  refine ⟨fun n hq => ?_, fun ns hi hb he => ?_⟩
  · rcases List.mem_append.1 hq with hq | hq
    · exact h.1 n hq
    · rw [List.mem_singleton] at hq; subst hq; exact hn.rng
  · obtain ⟨h1, h2⟩ := h.2 ns hi hb he
    have hk : l.length < ns.length := by rw [hw, he, List.length_drop, List.length_map] at h0; omega
    have hd : wz.head? = some (itoaT ns[l.length]) := by
      rw [hw, he, List.drop_eq_getElem_cons (by rw [List.length_map]; exact hk), List.head?_cons, List.getElem_map]
    have hr := hi _ (List.getElem_mem hk)
    obtain ⟨q1, q2⟩ := hn.yes _ _ h1 hd (atoi_back hr.1 hr.2)
    refine ⟨q1, ?_⟩
    rw [List.length_append, List.length_singleton, List.take_succ_eq_append_getElem hk, ← h2, q2]
theorem rn_end {b0 bad : Bool} {ws0 wz : List ByteArray} {l : List Int} (h : RnI b0 ws0 l bad) (hw : wz = ws0.drop l.length) (h0 : ¬ 0 < wz.length) : RunR b0 ws0 l bad := by
  refine ⟨h.1, fun ns hi hb he => ?_⟩
  obtain ⟨h1, h2⟩ := h.2 ns hi hb he
  refine ⟨h1, ?_⟩
  rw [hw, he, List.length_drop, List.length_map] at h0
  rw [h2, List.take_of_length_le (by omega)]
/-- What a line is the line of. -/
def isL (s : ByteArray) : Prop := ∃ y, okS y ∧ inS y ∧ lineS y = s
theorem line_kind {y : StepP} (ok : okS y) : kOf ((wordsB (lineS y)).headD ByteArray.empty) = y.Kind := by
  rw [words_line ok.1]
  exact kOf_word ok.1
theorem not_line {s : ByteArray} (h : kOf ((wordsB s).headD ByteArray.empty) < 1) : ¬ isL s := by
  rintro ⟨y, ok, _, rfl⟩
  rw [line_kind ok] at h
  have := ok.1; omega
theorem itoas_inj : ∀ {a b : List Int}, (∀ n ∈ a, inI n) → (∀ n ∈ b, inI n) → a.map itoaT = b.map itoaT → a = b
  | [], [], _, _, _ => rfl
  | [], _ :: _, _, _, h => by simp at h
  | _ :: _, [], _, _, h => by simp at h
  | x :: a, y :: b, h1, h2, h => by
    simp only [List.map_cons, List.cons.injEq] at h
    rw [itoaT_inj (h1 x (by simp)) (h2 y (by simp)) h.1, itoas_inj (fun n hn => h1 n (by simp [hn])) (fun n hn => h2 n (by simp [hn])) h.2]
theorem num_self {n : Int} {r : List ByteArray} (h : inI n) : NumR false (itoaT n :: r) n false :=
  ⟨h, fun _ => rfl, fun s u _ hs hu => by
    simp only [List.head?_cons, Option.some.injEq] at hs
    subst hs
    rw [atoi_back h.1 h.2] at hu
    exact ⟨rfl, Lib.NumEnd.ok.inj hu⟩⟩
theorem byt_self {b : ByteArray} {r : List ByteArray} : BytR false (hexT b :: r) b false :=
  ⟨by
    show b.size ≤ (hexT b).size
    unfold hexT
    split
    · rename_i h; rw [size_list, h]; exact Nat.zero_le _
    · rw [size_list (⟨(hexL b.data.toList).toArray⟩), List.toList_toArray, hexL_len, ← size_list]; omega,
   fun t c _ hs ht => by
    simp only [List.head?_cons, Option.some.injEq] at hs
    subst hs
    exact ⟨rfl, hexT_inj ht⟩⟩
theorem run_self {l : List Int} (h : ∀ n ∈ l, inI n) : RunR false (l.map itoaT) l false := ⟨h, fun ns h2 _ e => ⟨rfl, itoas_inj h h2 e⟩⟩
theorem line_inj {x y : StepP} (ox : okS x) (oy : okS y) (ix : inS x) (iy : inS y) (h : lineS x = lineS y) : x = y := by
  have hk : y.Kind = x.Kind := by rw [← line_kind oy, ← line_kind ox, h]
  have hw := words_line ox.1
  obtain ⟨K, A, B, Ky, V, L⟩ := x
  unfold wordsS at hw
  simp only at hw hk
  obtain ⟨_, oA, oB, oK, oV, _, _⟩ := ox
  simp only at oA oB oK oV
  have e0 : (wordsB (lineS ⟨K, A, B, Ky, V, L⟩)).tail = (if kA K then [itoaT A] else []) ++ ((if kB K then [itoaT B] else []) ++ ((if kK K then [hexT Ky] else []) ++ ((if kV K then [hexT V] else []) ++ L.map itoaT))) := by rw [hw]; rfl
  refine (read_ok (k := K) (line := lineS ⟨K, A, B, Ky, V, L⟩) (b0 := false) (b1 := false) (b2 := false) (b3 := false) (b4 := false) (b5 := false) (by rw [hw]; rfl) e0.symm (w1 := (if kB K then [itoaT B] else []) ++ ((if kK K then [hexT Ky] else []) ++ ((if kV K then [hexT V] else []) ++ L.map itoaT))) (w2 := (if kK K then [hexT Ky] else []) ++ ((if kV K then [hexT V] else []) ++ L.map itoaT)) (w3 := (if kV K then [hexT V] else []) ++ L.map itoaT) (w4 := L.map itoaT) ?_ ?_ ?_ ?_ (run_self ix.2.2) oy iy hk h.symm).2
  · cases hc : kA K with
    | true => exact .t rfl ⟨num_self ix.1, rfl⟩
    | false => exact .f rfl ⟨oA hc, rfl, rfl⟩
  · cases hc : kB K with
    | true => exact .t rfl ⟨num_self ix.2.1, rfl⟩
    | false => exact .f rfl ⟨oB hc, rfl, rfl⟩
  · cases hc : kK K with
    | true => exact .t rfl ⟨byt_self, rfl⟩
    | false => exact .f rfl ⟨oK hc, rfl, rfl⟩
  · cases hc : kV K with
    | true => exact .t rfl ⟨byt_self, rfl⟩
    | false =>
      refine .f rfl ⟨ba_ext ?_, rfl, rfl⟩
      have := oV hc
      rw [size_list] at this
      exact List.eq_nil_of_length_eq_zero this
/-! ### texts -/
def linesL (cur : List UInt8) : List UInt8 → List (List UInt8)
  | [] => if cur = [] then [] else [cur]
  | c :: r => if c = 10 then cur :: linesL [] r else linesL (cur ++ [c]) r
def linesB (s : ByteArray) : List ByteArray := (linesL [] s.data.toList).map fun l => ⟨l.toArray⟩
theorem lines_run : ∀ (a cur r : List UInt8), (∀ c ∈ a, c ≠ 10) → linesL cur (a ++ r) = linesL (cur ++ a) r
  | [], cur, r, _ => by simp
  | c :: a, cur, r, h => by
    rw [List.cons_append, linesL, if_neg (h c (by simp)), lines_run a _ r fun x hx => h x (by simp [hx])]
    simp
theorem lines_cut : ∀ (a cur : List UInt8), (∀ x ∈ linesL cur a, (∀ c ∈ cur, c ≠ 10) → ∀ c ∈ x, c ≠ 10)
  | [], cur, x, hx, hc, c, h => by
    unfold linesL at hx
    split at hx
    · cases hx
    · rw [List.mem_singleton] at hx; subst hx; exact hc c h
  | b :: a, cur, x, hx, hc, c, h => by
    unfold linesL at hx
    split at hx
    · rcases List.mem_cons.1 hx with rfl | hx
      · exact hc c h
      · exact lines_cut a [] x hx (by simp) c h
    · rename_i hb
      refine lines_cut a _ x hx (fun d hd => ?_) c h
      rcases List.mem_append.1 hd with hd | hd
      · exact hc d hd
      · rw [List.mem_singleton] at hd; subst hd; exact hb
def textL (ls : List (List UInt8)) : List UInt8 := ls.flatMap fun l => l ++ [10]
theorem lines_text : ∀ (ls : List (List UInt8)), (∀ l ∈ ls, ∀ c ∈ l, c ≠ 10) → linesL [] (textL ls) = ls
  | [], _ => rfl
  | l :: ls, h => by
    have ih := lines_text ls fun x hx => h x (by simp [hx])
    unfold textL at *
    rw [List.flatMap_cons, List.append_assoc, lines_run l _ _ (h l (by simp))]
    simp only [List.nil_append, List.cons_append]
    rw [linesL, if_pos rfl, ih]
theorem lines_text2 : ∀ (ls : List (List UInt8)), (∀ l ∈ ls, (∀ c ∈ l, c ≠ 10) ∧ l ≠ []) → linesL [] (textL ls).dropLast = ls
  | [], _ => rfl
  | [l], h => by
    unfold textL
    rw [List.flatMap_cons, List.flatMap_nil, List.append_nil, List.dropLast_concat]
    have := lines_run l [] [] (h l (by simp)).1
    rw [List.append_nil, List.nil_append] at this
    rw [this, linesL, if_neg (h l (by simp)).2]
  | l :: m :: ls, h => by
    have ih := lines_text2 (m :: ls) fun x hx => h x (by simp [hx])
    have hne : textL (m :: ls) ≠ [] := by unfold textL; rw [List.flatMap_cons]; simp
    have e : textL (l :: m :: ls) = (l ++ [10]) ++ textL (m :: ls) := by unfold textL; rw [List.flatMap_cons]
    rw [e, List.dropLast_append_of_ne_nil hne, List.append_assoc, lines_run l _ _ (h l (by simp)).1]
    simp only [List.nil_append, List.cons_append]
    rw [linesL, if_pos rfl, ih]
theorem text_lines : ∀ (a cur : List UInt8), (textL (linesL cur a) = cur ++ a ∧ linesL cur a = []) ∨ textL (linesL cur a) = cur ++ a ∨ textL (linesL cur a) = cur ++ a ++ [10]
  | [], cur => by
    unfold linesL
    split
    · rename_i h; subst h; exact .inl ⟨rfl, rfl⟩
    · exact .inr (.inr (by simp [textL]))
  | c :: a, cur => by
    unfold linesL
    split
    · rename_i h
      subst h
      have e : textL (cur :: linesL [] a) = cur ++ [10] ++ textL (linesL [] a) := by unfold textL; rw [List.flatMap_cons]
      rw [e]
      rcases text_lines a [] with ⟨h, _⟩ | h | h
      · exact .inr (.inl (by rw [h]; simp))
      · exact .inr (.inl (by rw [h]; simp))
      · exact .inr (.inr (by rw [h]; simp))
    · rcases text_lines a (cur ++ [c]) with ⟨h, h2⟩ | h | h
      · exact .inr (.inl (by rw [h]; simp))
      · exact .inr (.inl (by rw [h]; simp))
      · exact .inr (.inr (by rw [h]; simp))
/-- The text of steps. -/
def textS (xs : List StepP) : ByteArray := ⟨(textL (xs.map fun x => (lineS x).data.toList)).toArray⟩
theorem mk_list (s : ByteArray) : (⟨s.data.toList.toArray⟩ : ByteArray) = s := ba_ext (by simp)
theorem lines_textS {xs : List StepP} (h : ∀ x ∈ xs, okS x) : linesB (textS xs) = xs.map lineS := by
  unfold linesB textS
  rw [List.toList_toArray, lines_text]
  · rw [List.map_map]; exact List.map_congr_left fun x _ => mk_list _
  · intro l hl
    obtain ⟨x, hx, rfl⟩ := List.mem_map.1 hl
    exact line_chars (h x hx).1
theorem lines_textS2 {xs : List StepP} (h : ∀ x ∈ xs, okS x) : linesB ((textS xs).extract 0 ((textS xs).size - 1)) = xs.map lineS := by
  have e : ((textS xs).extract 0 ((textS xs).size - 1)).data.toList = (textL (xs.map fun x => (lineS x).data.toList)).dropLast := by
    rw [ByteArray.data_extract, Array.toList_extract, size_list]
    unfold textS
    rw [List.toList_toArray, List.extract_eq_take_drop, List.drop_zero, List.dropLast_eq_take]
    simp
  unfold linesB
  rw [e, lines_text2]
  · rw [List.map_map]; exact List.map_congr_left fun x _ => mk_list _
  · intro l hl
    obtain ⟨x, hx, rfl⟩ := List.mem_map.1 hl
    exact ⟨line_chars (h x hx).1, line_ne (h x hx).1⟩
theorem text_of_lines {s : ByteArray} {xs : List StepP} (h : linesB s = xs.map lineS) : textS xs = s ∨ textS xs = s ++ ⟨#[10]⟩ := by
  have e : (linesL [] s.data.toList) = xs.map fun x => (lineS x).data.toList := by
    have := congrArg (List.map fun y : ByteArray => y.data.toList) h
    unfold linesB at this
    rw [List.map_map, List.map_map] at this
    rw [← show List.map ((fun y : ByteArray => y.data.toList) ∘ fun l => (⟨l.toArray⟩ : ByteArray)) (linesL [] s.data.toList) = linesL [] s.data.toList from by
      rw [show ((fun y : ByteArray => y.data.toList) ∘ fun l : List UInt8 => (⟨l.toArray⟩ : ByteArray)) = id from by funext l; simp]; simp]
    exact this
  rcases text_lines s.data.toList [] with ⟨q, _⟩ | q | q
  · left; apply ba_ext; unfold textS; rw [List.toList_toArray, ← e, q]; rfl
  · left; apply ba_ext; unfold textS; rw [List.toList_toArray, ← e, q]; rfl
  · right; apply ba_ext; unfold textS; rw [List.toList_toArray, ← e, q]; simp
theorem lines_one {l : ByteArray} (h : ∀ c ∈ l.data.toList, c ≠ 10) : linesB (l ++ ⟨#[10]⟩) = [l] := by
  unfold linesB
  have := lines_text [l.data.toList] (by simpa using h)
  unfold textL at this
  rw [List.flatMap_cons, List.flatMap_nil, List.append_nil] at this
  rw [show (l ++ (⟨#[10]⟩ : ByteArray)).data.toList = l.data.toList ++ [10] from by simp, this]
  simp [mk_list]
/-- What Parse answers. -/
def PrsR (s : ByteArray) (xs : List StepP) (n e : Int) : Prop :=
  (4096 < (linesB s).length ∧ xs = [] ∧ n = 0 ∧ e = 2) ∨
  ((linesB s).length ≤ 4096 ∧ xs = [] ∧ e = 82 ∧ ∃ k : Nat, k < (linesB s).length ∧ n = k ∧ ¬ isL (linesB s)[k]! ∧ ∀ i, i < k → isL (linesB s)[i]!) ∨
  ((linesB s).length ≤ 4096 ∧ n = 0 ∧ e = 0 ∧ linesB s = xs.map lineS ∧ ∀ x ∈ xs, okS x ∧ inS x)
theorem map_inj : ∀ {xs ys : List StepP}, (∀ x ∈ xs, okS x ∧ inS x) → (∀ x ∈ ys, okS x ∧ inS x) → xs.map lineS = ys.map lineS → xs = ys
  | [], [], _, _, _ => rfl
  | [], _ :: _, _, _, h => by simp at h
  | _ :: _, [], _, _, h => by simp at h
  | x :: a, y :: b, h1, h2, h => by
    simp only [List.map_cons, List.cons.injEq] at h
    rw [line_inj (h1 x (by simp)).1 (h2 y (by simp)).1 (h1 x (by simp)).2 (h2 y (by simp)).2 h.1, map_inj (fun n hn => h1 n (by simp [hn])) (fun n hn => h2 n (by simp [hn])) h.2]
/-- A text whose lines are those of steps that may be is taken, and these are told. -/
theorem PrsR.of {s : ByteArray} {xs ys : List StepP} {n e : Int} (h : PrsR s xs n e) (hl : linesB s = ys.map lineS) (hy : ∀ y ∈ ys, okS y ∧ inS y) (hn : ys.length ≤ 4096) : n = 0 ∧ e = 0 ∧ xs = ys := by
  have hlen : (linesB s).length = ys.length := by rw [hl, List.length_map]
  rcases h with ⟨h, _⟩ | ⟨_, _, _, k, h1, _, h2, _⟩ | ⟨_, h1, h2, h3, h4⟩
  · omega
  · refine absurd ?_ h2
    have hk : k < ys.length := by omega
    rw [hl, getElem!_pos _ k (by simpa using hk), List.getElem_map]
    exact ⟨_, (hy _ (List.getElem_mem hk)).1, (hy _ (List.getElem_mem hk)).2, rfl⟩
  · exact ⟨h1, h2, map_inj h4 hy (h3.symm.trans hl)⟩
end Go.Proofs.YtbpedjefoajegaaDoor.K
