/- Texts of this claim, merged: what the program's functions compute, and the rules that the walks use. -/
import Derived.Lib.Join
import Derived.Lib.Builder
import Derived.Lib.OthersKept
import Derived.Shelf.Strings.Split
import Derived.Shelf.Small.Strs
import Derived.Shelf.Strings.OnBuilder
import Derived.Test.YtbpedjefoajegaaDoorProg
import Derived.Lib.ConvBytes
import Derived.Test.YtbpedjefoajegaaDoorZ0
import Derived.Test.YtbpedjefoajegaaDoorZ1
namespace Go.Proofs.YtbpedjefoajegaaDoor.K
open Go Go.RowKit
set_option linter.unusedVariables false
set_option linter.unusedSimpArgs false
structure StepP where
  (Kind A B : Int) (Key Value : ByteArray) (L : List Int)
def kWord (k : Int) : ByteArray :=
  if k = 1 then ⟨#[112, 117, 116]⟩ else if k = 2 then ⟨#[103, 101, 116]⟩ else if k = 3 then ⟨#[99, 97, 110, 99, 101, 108]⟩ else if k = 4 then ⟨#[116, 105, 99, 107]⟩
  else if k = 5 then ⟨#[115, 116, 111, 112]⟩ else if k = 6 then ⟨#[100, 101, 108, 105, 118, 101, 114]⟩ else if k = 7 then ⟨#[100, 114, 111, 112]⟩ else if k = 8 then ⟨#[100, 111, 117, 98, 108, 101]⟩
  else if k = 9 then ⟨#[98, 117, 114, 115, 116]⟩ else if k = 10 then ⟨#[99, 117, 116]⟩ else if k = 11 then ⟨#[108, 111, 115, 101]⟩ else if k = 12 then ⟨#[99, 114, 97, 115, 104]⟩
  else if k = 13 then ⟨#[115, 116, 97, 114, 116]⟩ else if k = 14 then ⟨#[100, 105, 101]⟩ else if k = 15 then ⟨#[99, 111, 109, 112, 97, 99, 116]⟩ else if k = 16 then ⟨#[114, 111, 117, 110, 100]⟩ else ⟨#[]⟩
def kA (k : Int) : Bool := !decide (k = 16)
def kB (k : Int) : Bool := decide (k = 9) || decide (k = 10) || decide (k = 14) || decide (k = 16)
def kK (k : Int) : Bool := decide (k = 1) || decide (k = 2)
def kV (k : Int) : Bool := decide (k = 1)
def kL (k : Int) : Bool := decide (k = 9) || decide (k = 12) || decide (k = 14) || decide (k = 16)
def kOf (w : ByteArray) : Int :=
  if w = ⟨#[]⟩ then 0 else if w = kWord 1 then 1 else if w = kWord 2 then 2 else if w = kWord 3 then 3 else if w = kWord 4 then 4 else if w = kWord 5 then 5 else if w = kWord 6 then 6 else if w = kWord 7 then 7 else if w = kWord 8 then 8
  else if w = kWord 9 then 9 else if w = kWord 10 then 10 else if w = kWord 11 then 11 else if w = kWord 12 then 12 else if w = kWord 13 then 13 else if w = kWord 14 then 14 else if w = kWord 15 then 15 else if w = kWord 16 then 16 else -1
theorem kcases {k : Int} (h : 1 ≤ k ∧ k ≤ 16) : k = 1 ∨ k = 2 ∨ k = 3 ∨ k = 4 ∨ k = 5 ∨ k = 6 ∨ k = 7 ∨ k = 8 ∨ k = 9 ∨ k = 10 ∨ k = 11 ∨ k = 12 ∨ k = 13 ∨ k = 14 ∨ k = 15 ∨ k = 16 := by omega
theorem kOf_word {k : Int} (h : 1 ≤ k ∧ k ≤ 16) : kOf (kWord k) = k := by
  rcases kcases h with rfl | rfl | rfl | rfl | rfl | rfl | rfl | rfl | rfl | rfl | rfl | rfl | rfl | rfl | rfl | rfl <;> decide +kernel
theorem kOf_rng (w : ByteArray) : -1 ≤ kOf w ∧ kOf w ≤ 16 := by
  unfold kOf; repeat' split
  all_goals omega
/-- What a step may be. -/
def okS (x : StepP) : Prop := (1 ≤ x.Kind ∧ x.Kind ≤ 16) ∧ (kA x.Kind = false → x.A = 0) ∧ (kB x.Kind = false → x.B = 0) ∧ (kK x.Kind = false → x.Key = ⟨#[]⟩) ∧ (kV x.Kind = false → x.Value.size = 0) ∧
  (x.Kind = 9 → x.L.length = 1 ∧ 0 ≤ x.L[0]! ∧ x.L[0]! ≤ 4294967295) ∧ (kL x.Kind = false → x.L.length = 0)
def inS (x : StepP) : Prop := inI x.A ∧ inI x.B ∧ ∀ n ∈ x.L, inI n
open Classical in
noncomputable def chkI (x : StepP) : Int := if ¬ (1 ≤ x.Kind ∧ x.Kind ≤ 16) then 32 else if okS x then 0 else 1
theorem chk_32 {x : StepP} (h : ¬ (1 ≤ x.Kind ∧ x.Kind ≤ 16)) : chkI x = 32 := by unfold chkI; rw [if_pos h]
theorem chk_0 {x : StepP} (h : okS x) : chkI x = 0 := by unfold chkI; rw [if_neg (fun q => q h.1), if_pos h]
theorem chk_1 {x : StepP} (h1 : 1 ≤ x.Kind ∧ x.Kind ≤ 16) (h : ¬ okS x) : chkI x = 1 := by unfold chkI; rw [if_neg (fun q => q h1), if_neg h]
theorem chk_ok {x : StepP} (h : chkI x = 0) : okS x := by
  unfold chkI at h
  split at h
  · omega
  · split at h
    · assumption
    · omega
/-! ### bytes as digits -/
def hexD (n : Nat) : UInt8 := if n < 10 then UInt8.ofNat (48 + n) else UInt8.ofNat (87 + n)
def hexL (l : List UInt8) : List UInt8 := l.flatMap fun b => [hexD (b.toNat / 16), hexD (b.toNat % 16)]
def hexT (b : ByteArray) : ByteArray := if b.data.toList = [] then ⟨#[45]⟩ else ⟨(hexL b.data.toList).toArray⟩
theorem hexD_in : ∀ n, n < 16 → (hexD n).toNat = if n < 10 then 48 + n else 87 + n := by decide
theorem hexD_inj {a b : Nat} (ha : a < 16) (hb : b < 16) (h : hexD a = hexD b) : a = b := by
  have h1 := hexD_in a ha
  have h2 := hexD_in b hb
  rw [h] at h1
  rw [h1] at h2
  split at h2 <;> split at h2 <;> omega
theorem hexL_len : ∀ l : List UInt8, (hexL l).length = 2 * l.length
  | [] => rfl
  | b :: l => by
    have := hexL_len l
    unfold hexL at *
    rw [List.flatMap_cons, List.length_append, this, List.length_cons]
    simp only [List.length_cons, List.length_nil]; omega
theorem hexL_inj : ∀ {a b : List UInt8}, hexL a = hexL b → a = b
  | [], [], _ => rfl
  | [], _ :: _, h => by have := congrArg List.length h; rw [hexL_len, hexL_len] at this; simp at this
  | _ :: _, [], h => by have := congrArg List.length h; rw [hexL_len, hexL_len] at this; simp at this
  | x :: a, y :: b, h => by
    unfold hexL at h
    rw [List.flatMap_cons, List.flatMap_cons] at h
    simp only [List.cons_append, List.nil_append, List.cons.injEq] at h
    have h1 := hexD_inj (by have := x.toNat_lt; omega) (by have := y.toNat_lt; omega) h.1
    have h2 := hexD_inj (by omega) (by omega) h.2.1
    have e : x = y := UInt8.toNat_inj.1 (by omega)
    rw [e, hexL_inj (a := a) (b := b) h.2.2]
theorem hexL_chars : ∀ (l : List UInt8), ∀ c ∈ hexL l, (48 ≤ c.toNat ∧ c.toNat ≤ 57) ∨ (97 ≤ c.toNat ∧ c.toNat ≤ 102) := by
  intro l c hc
  unfold hexL at hc
  obtain ⟨b, _, hb⟩ := List.mem_flatMap.1 hc
  have hlt := b.toNat_lt
  have key : ∀ n, n < 16 → (48 ≤ (hexD n).toNat ∧ (hexD n).toNat ≤ 57) ∨ (97 ≤ (hexD n).toNat ∧ (hexD n).toNat ≤ 102) := fun n hn => by
    rw [hexD_in n hn]; split <;> omega
  rcases List.mem_cons.1 hb with rfl | hb
  · exact key _ (by omega)
  · rw [List.mem_singleton] at hb; subst hb
    exact key _ (by omega)
theorem hexT_chars (b : ByteArray) : ∀ c ∈ (hexT b).data.toList, c ≠ 32 ∧ c ≠ 10 := by
  intro c hc
  unfold hexT at hc
  split at hc
  · simp at hc; subst hc; decide
  · simp only [List.toList_toArray] at hc
    have := hexL_chars _ c hc
    constructor <;> rintro rfl <;> revert this <;> decide
theorem hexT_inj {a b : ByteArray} (h : hexT a = hexT b) : a = b := by
  unfold hexT at h
  have hd : ∀ x : ByteArray, (⟨#[45]⟩ : ByteArray) ≠ ⟨(hexL x.data.toList).toArray⟩ := fun x e => by
    have e2 := congrArg (fun y : ByteArray => y.data.toList) e
    simp only [List.toList_toArray] at e2
    have := hexL_chars x.data.toList 45 (by rw [← e2]; simp)
    revert this; decide
  split at h
  · split at h
    · rename_i h1 h2; exact ba_ext (h1.trans h2.symm)
    · exact absurd h (hd _)
  · split at h
    · exact absurd h.symm (hd _)
    · have e2 := congrArg (fun y : ByteArray => y.data.toList) h
      simp only [List.toList_toArray] at e2
      exact ba_ext (hexL_inj e2)
/-! ### lines -/
def wordsS (x : StepP) : List ByteArray := kWord x.Kind :: ((if kA x.Kind then [itoaT x.A] else []) ++ ((if kB x.Kind then [itoaT x.B] else []) ++ ((if kK x.Kind then [hexT x.Key] else []) ++ ((if kV x.Kind then [hexT x.Value] else []) ++ x.L.map itoaT))))
def joinB (ws : List ByteArray) : ByteArray := ⟨(Lib.join (ws.map (·.data.toList)) [32]).toArray⟩
def lineS (x : StepP) : ByteArray := joinB (wordsS x)
theorem joinB_one (x : ByteArray) : joinB [x] = x := by unfold joinB; apply ba_ext; simp [Lib.join_one]
theorem joinB_cons (x y : ByteArray) (r : List ByteArray) : joinB (x :: y :: r) = x ++ (spL ++ joinB (y :: r)) := by
  apply ba_ext
  unfold joinB
  simp only [List.map_cons, ByteArray.data_append, Array.toList_append, List.toList_toArray]
  rw [Lib.join_cons, Lib.join_cons]
  simp [Lib.joinTail, spL]
theorem words_join : ∀ (ws : List ByteArray), ws ≠ [] → (∀ x ∈ ws, noSp x) → wordsB (joinB ws) = ws
  | [], h, _ => absurd rfl h
  | [x], _, h => by rw [joinB_one]; exact words_one (h x (by simp))
  | x :: y :: r, _, h => by
    rw [joinB_cons, words_cons (h x (by simp)), words_join (y :: r) (by simp) fun z hz => h z (by simp [hz])]
/-- No blank and no end of a line. -/
def plainW (x : ByteArray) : Prop := ∀ c ∈ x.data.toList, c ≠ 32 ∧ c ≠ 10
theorem plain_nosp {x : ByteArray} (h : plainW x) : noSp x := fun q => (h 32 q).1 rfl
theorem itoa_plain (n : Int) : plainW (itoaT n) := by
  intro c hc
  rw [itoaT_list] at hc
  rcases itoa_chars.1 c hc with q | q
  · subst q; decide
  · constructor <;> rintro rfl <;> revert q <;> decide
theorem word_plain {k : Int} (h : 1 ≤ k ∧ k ≤ 16) : plainW (kWord k) ∧ kWord k ≠ ⟨#[]⟩ := by
  have key : ∀ k : Int, ((kWord k).data.toList.all fun c => decide (c ≠ 32 ∧ c ≠ 10)) = true → plainW (kWord k) := fun k q c hc => by
    have := List.all_eq_true.1 q c hc
    simpa using this
  rcases kcases h with rfl | rfl | rfl | rfl | rfl | rfl | rfl | rfl | rfl | rfl | rfl | rfl | rfl | rfl | rfl | rfl <;> exact ⟨key _ (by decide +kernel), by decide +kernel⟩
theorem wordsS_plain {x : StepP} (h : 1 ≤ x.Kind ∧ x.Kind ≤ 16) : ∀ y ∈ wordsS x, plainW y := by
  intro y hy
  unfold wordsS at hy
  simp only [List.mem_cons, List.mem_append, List.mem_map] at hy
  rcases hy with rfl | hy | hy | hy | hy | ⟨n, _, rfl⟩
  · exact (word_plain h).1
  · split at hy
    · rw [List.mem_singleton] at hy; subst hy; exact itoa_plain _
    · cases hy
  · split at hy
    · rw [List.mem_singleton] at hy; subst hy; exact itoa_plain _
    · cases hy
  · split at hy
    · rw [List.mem_singleton] at hy; subst hy; exact hexT_chars _
    · cases hy
  · split at hy
    · rw [List.mem_singleton] at hy; subst hy; exact hexT_chars _
    · cases hy
  · exact itoa_plain _
theorem words_line {x : StepP} (h : 1 ≤ x.Kind ∧ x.Kind ≤ 16) : wordsB (lineS x) = wordsS x := words_join _ (by unfold wordsS; simp) fun y hy => plain_nosp (wordsS_plain h y hy)
theorem join_chars : ∀ (ws : List ByteArray), (∀ x ∈ ws, plainW x) → ∀ c ∈ (joinB ws).data.toList, c ≠ 10
  | [], _, c, hc => by unfold joinB at hc; simp [Lib.join_nil] at hc
  | [x], h, c, hc => by rw [joinB_one] at hc; exact (h x (by simp) c hc).2
  | x :: y :: r, h, c, hc => by
    rw [joinB_cons] at hc
    simp only [ByteArray.data_append, Array.toList_append, List.mem_append] at hc
    rcases hc with hc | hc | hc
    · exact (h x (by simp) c hc).2
    · simp [spL] at hc; subst hc; decide
    · exact join_chars (y :: r) (fun z hz => h z (by simp [hz])) c hc
theorem line_chars {x : StepP} (h : 1 ≤ x.Kind ∧ x.Kind ≤ 16) : ∀ c ∈ (lineS x).data.toList, c ≠ 10 := join_chars _ (wordsS_plain h)
/-! ### a line that is read -/
structure BytR (bad : Bool) (ws : List ByteArray) (v : ByteArray) (b' : Bool) : Prop where
  le : v.size ≤ (ws.headD ByteArray.empty).size
  yes : ∀ t b, bad = false → ws.head? = some t → t = hexT b → b' = false ∧ v = b
structure RunR (bad : Bool) (ws : List ByteArray) (l : List Int) (b' : Bool) : Prop where
  rng : ∀ n ∈ l, inI n
  yes : ∀ ns : List Int, (∀ n ∈ ns, inI n) → bad = false → ws = ns.map itoaT → b' = false ∧ l = ns
def Opt (c : Bool) (P Q : Prop) : Prop := (c = true → P) ∧ (c = false → Q)
theorem Opt.t {P Q : Prop} {c : Bool} (h : c = true) (p : P) : Opt c P Q := ⟨fun _ => p, fun q => absurd (h.symm.trans q) (by decide)⟩
theorem Opt.f {P Q : Prop} {c : Bool} (h : c = false) (p : Q) : Opt c P Q := ⟨fun q => absurd (h.symm.trans q) (by decide), fun _ => p⟩
theorem read_ok {k : Int} {line : ByteArray} {w0 w1 w2 w3 w4 : List ByteArray} {b0 b1 b2 b3 b4 b5 : Bool} {vA vB : Int} {key val : ByteArray} {l : List Int}
    (h0 : b0 = (false || (wordsB line).isEmpty)) (e0 : w0 = (wordsB line).tail)
    (hA : Opt (kA k) (NumR b0 w0 vA b1 ∧ w1 = w0.tail) (vA = 0 ∧ b1 = b0 ∧ w1 = w0)) (hB : Opt (kB k) (NumR b1 w1 vB b2 ∧ w2 = w1.tail) (vB = 0 ∧ b2 = b1 ∧ w2 = w1))
    (hK : Opt (kK k) (BytR b2 w2 key b3 ∧ w3 = w2.tail) (key = ⟨#[]⟩ ∧ b3 = b2 ∧ w3 = w2)) (hV : Opt (kV k) (BytR b3 w3 val b4 ∧ w4 = w3.tail) (val = ⟨#[]⟩ ∧ b4 = b3 ∧ w4 = w3))
    (hL : RunR b4 w4 l b5) {y : StepP} (ok : okS y) (hi : inS y) (hk : y.Kind = k) (he : lineS y = line) : b5 = false ∧ (⟨k, vA, vB, key, val, l⟩ : StepP) = y := by
  obtain ⟨K, A, B, Ky, V, L⟩ := y
  obtain ⟨i1, i2, i3⟩ := hi
  simp only at hk i1 i2 i3
  subst hk
  have hw := words_line ok.1
  rw [he] at hw
  rw [hw] at h0 e0
  unfold wordsS at h0 e0
  simp only [List.isEmpty_cons, Bool.or_false, List.tail_cons] at h0 e0
  obtain ⟨_, oA, oB, oK, oV, _, _⟩ := ok
  simp only at oA oB oK oV
  have sA : b1 = false ∧ vA = A ∧ w1 = (if kB K then [itoaT B] else []) ++ ((if kK K then [hexT Ky] else []) ++ ((if kV K then [hexT V] else []) ++ L.map itoaT)) := by
    cases hc : kA K with
    | true =>
      rw [hc] at e0
      obtain ⟨n, q⟩ := hA.1 hc
      obtain ⟨p1, p2⟩ := n.yes (itoaT A) A h0 (by rw [e0]; rfl) (atoi_back i1.1 i1.2)
      exact ⟨p1, p2, by rw [q, e0]; rfl⟩
    | false =>
      rw [hc] at e0
      obtain ⟨p1, p2, p3⟩ := hA.2 hc
      exact ⟨p2.trans h0, p1.trans (oA hc).symm, by rw [p3, e0]; rfl⟩
  obtain ⟨z1, rfl, e1⟩ := sA
  have sB : b2 = false ∧ vB = B ∧ w2 = (if kK K then [hexT Ky] else []) ++ ((if kV K then [hexT V] else []) ++ L.map itoaT) := by
    cases hc : kB K with
    | true =>
      rw [hc] at e1
      obtain ⟨n, q⟩ := hB.1 hc
      obtain ⟨p1, p2⟩ := n.yes (itoaT B) B z1 (by rw [e1]; rfl) (atoi_back i2.1 i2.2)
      exact ⟨p1, p2, by rw [q, e1]; rfl⟩
    | false =>
      rw [hc] at e1
      obtain ⟨p1, p2, p3⟩ := hB.2 hc
      exact ⟨p2.trans z1, p1.trans (oB hc).symm, by rw [p3, e1]; rfl⟩
  obtain ⟨z2, rfl, e2⟩ := sB
  have sK : b3 = false ∧ key = Ky ∧ w3 = (if kV K then [hexT V] else []) ++ L.map itoaT := by
    cases hc : kK K with
    | true =>
      rw [hc] at e2
      obtain ⟨n, q⟩ := hK.1 hc
      obtain ⟨p1, p2⟩ := n.yes (hexT Ky) Ky z2 (by rw [e2]; rfl) rfl
      exact ⟨p1, p2, by rw [q, e2]; rfl⟩
    | false =>
      rw [hc] at e2
      obtain ⟨p1, p2, p3⟩ := hK.2 hc
      exact ⟨p2.trans z2, p1.trans (oK hc).symm, by rw [p3, e2]; rfl⟩
  obtain ⟨z3, rfl, e3⟩ := sK
  have sV : b4 = false ∧ val = V ∧ w4 = L.map itoaT := by
    cases hc : kV K with
    | true =>
      rw [hc] at e3
      obtain ⟨n, q⟩ := hV.1 hc
      obtain ⟨p1, p2⟩ := n.yes (hexT V) V z3 (by rw [e3]; rfl) rfl
      exact ⟨p1, p2, by rw [q, e3]; rfl⟩
    | false =>
      rw [hc] at e3
      obtain ⟨p1, p2, p3⟩ := hV.2 hc
      have hv0 : V = ⟨#[]⟩ := ba_ext (by
        have := oV hc
        rw [size_list] at this
        exact List.eq_nil_of_length_eq_zero this)
      exact ⟨p2.trans z3, p1.trans hv0.symm, by rw [p3, e3]; rfl⟩
  obtain ⟨z4, rfl, e4⟩ := sV
  obtain ⟨p1, p2⟩ := hL.yes L i3 z4 e4
  exact ⟨p1, by rw [p2]⟩
/-- What is read so far of the numbers. -/
def RnI (b0 : Bool) (ws0 : List ByteArray) (l : List Int) (bad : Bool) : Prop := (∀ n ∈ l, inI n) ∧ ∀ ns : List Int, (∀ n ∈ ns, inI n) → b0 = false → ws0 = ns.map itoaT → bad = false ∧ l = ns.take l.length
theorem rn_start (b0 : Bool) (ws0 : List ByteArray) : RnI b0 ws0 [] b0 := ⟨fun n hn => (by cases hn), fun ns _ h _ => ⟨h, rfl⟩⟩
theorem rn_step {b0 bad b' : Bool} {ws0 wz : List ByteArray} {l : List Int} {v : Int} (h : RnI b0 ws0 l bad) (hw : wz = ws0.drop l.length) (hn : NumR bad wz v b') (h0 : 0 < wz.length) : RnI b0 ws0 (l ++ [v]) b' := by
  refine ⟨fun n hq => ?_, fun ns hi hb he => ?_⟩
  · rcases List.mem_append.1 hq with hq | hq
    · exact h.1 n hq
    · rw [List.mem_singleton] at hq; subst hq; exact hn.rng
  · obtain ⟨h1, h2⟩ := h.2 ns hi hb he
    have hk : l.length < ns.length := by rw [hw, he, List.length_drop, List.length_map] at h0; omega
    have hd : wz.head? = some (itoaT ns[l.length]) := by
      rw [hw, he, List.drop_eq_getElem_cons (by rw [List.length_map]; exact hk), List.head?_cons, List.getElem_map]
    have hr := hi _ (List.getElem_mem hk)
    obtain ⟨q1, q2⟩ := hn.yes _ _ h1 hd (atoi_back hr.1 hr.2)
    refine ⟨q1, ?_⟩
    rw [List.length_append, List.length_singleton, List.take_succ_eq_append_getElem hk, ← h2, q2]
theorem rn_end {b0 bad : Bool} {ws0 wz : List ByteArray} {l : List Int} (h : RnI b0 ws0 l bad) (hw : wz = ws0.drop l.length) (h0 : ¬ 0 < wz.length) : RunR b0 ws0 l bad := by
  refine ⟨h.1, fun ns hi hb he => ?_⟩
  obtain ⟨h1, h2⟩ := h.2 ns hi hb he
  refine ⟨h1, ?_⟩
  rw [hw, he, List.length_drop, List.length_map] at h0
  rw [h2, List.take_of_length_le (by omega)]
/-- What a line is the line of. -/
def isL (s : ByteArray) : Prop := ∃ y, okS y ∧ inS y ∧ lineS y = s
theorem line_kind {y : StepP} (ok : okS y) : kOf ((wordsB (lineS y)).headD ByteArray.empty) = y.Kind := by
  rw [words_line ok.1]
  exact kOf_word ok.1
theorem not_line {s : ByteArray} (h : kOf ((wordsB s).headD ByteArray.empty) < 1) : ¬ isL s := by
  rintro ⟨y, ok, _, rfl⟩
  rw [line_kind ok] at h
  have := ok.1; omega
theorem itoas_inj : ∀ {a b : List Int}, (∀ n ∈ a, inI n) → (∀ n ∈ b, inI n) → a.map itoaT = b.map itoaT → a = b
  | [], [], _, _, _ => rfl
  | [], _ :: _, _, _, h => by simp at h
  | _ :: _, [], _, _, h => by simp at h
  | x :: a, y :: b, h1, h2, h => by
    simp only [List.map_cons, List.cons.injEq] at h
    rw [itoaT_inj (h1 x (by simp)) (h2 y (by simp)) h.1, itoas_inj (fun n hn => h1 n (by simp [hn])) (fun n hn => h2 n (by simp [hn])) h.2]
theorem num_self {n : Int} {r : List ByteArray} (h : inI n) : NumR false (itoaT n :: r) n false :=
  ⟨h, fun _ => rfl, fun s u _ hs hu => by
    simp only [List.head?_cons, Option.some.injEq] at hs
    subst hs
    rw [atoi_back h.1 h.2] at hu
    exact ⟨rfl, Lib.NumEnd.ok.inj hu⟩⟩
theorem byt_self {b : ByteArray} {r : List ByteArray} : BytR false (hexT b :: r) b false :=
  ⟨by
    show b.size ≤ (hexT b).size
    unfold hexT
    split
    · rename_i h; rw [size_list, h]; exact Nat.zero_le _
    · rw [size_list (⟨(hexL b.data.toList).toArray⟩), List.toList_toArray, hexL_len, ← size_list]; omega,
   fun t c _ hs ht => by
    simp only [List.head?_cons, Option.some.injEq] at hs
    subst hs
    exact ⟨rfl, hexT_inj ht⟩⟩
theorem run_self {l : List Int} (h : ∀ n ∈ l, inI n) : RunR false (l.map itoaT) l false := ⟨h, fun ns h2 _ e => ⟨rfl, itoas_inj h h2 e⟩⟩
theorem line_inj {x y : StepP} (ox : okS x) (oy : okS y) (ix : inS x) (iy : inS y) (h : lineS x = lineS y) : x = y := by
  have hk : y.Kind = x.Kind := by rw [← line_kind oy, ← line_kind ox, h]
  have hw := words_line ox.1
  obtain ⟨K, A, B, Ky, V, L⟩ := x
  unfold wordsS at hw
  simp only at hw hk
  obtain ⟨_, oA, oB, oK, oV, _, _⟩ := ox
  simp only at oA oB oK oV
  have e0 : (wordsB (lineS ⟨K, A, B, Ky, V, L⟩)).tail = (if kA K then [itoaT A] else []) ++ ((if kB K then [itoaT B] else []) ++ ((if kK K then [hexT Ky] else []) ++ ((if kV K then [hexT V] else []) ++ L.map itoaT))) := by rw [hw]; rfl
  refine (read_ok (k := K) (line := lineS ⟨K, A, B, Ky, V, L⟩) (b0 := false) (b1 := false) (b2 := false) (b3 := false) (b4 := false) (b5 := false) (by rw [hw]; rfl) e0.symm (w1 := (if kB K then [itoaT B] else []) ++ ((if kK K then [hexT Ky] else []) ++ ((if kV K then [hexT V] else []) ++ L.map itoaT))) (w2 := (if kK K then [hexT Ky] else []) ++ ((if kV K then [hexT V] else []) ++ L.map itoaT)) (w3 := (if kV K then [hexT V] else []) ++ L.map itoaT) (w4 := L.map itoaT) ?_ ?_ ?_ ?_ (run_self ix.2.2) oy iy hk h.symm).2
  · cases hc : kA K with
    | true => exact .t rfl ⟨num_self ix.1, rfl⟩
    | false => exact .f rfl ⟨oA hc, rfl, rfl⟩
  · cases hc : kB K with
    | true => exact .t rfl ⟨num_self ix.2.1, rfl⟩
    | false => exact .f rfl ⟨oB hc, rfl, rfl⟩
  · cases hc : kK K with
    | true => exact .t rfl ⟨byt_self, rfl⟩
    | false => exact .f rfl ⟨oK hc, rfl, rfl⟩
  · cases hc : kV K with
    | true => exact .t rfl ⟨byt_self, rfl⟩
    | false =>
      refine .f rfl ⟨ba_ext ?_, rfl, rfl⟩
      have := oV hc
      rw [size_list] at this
      exact List.eq_nil_of_length_eq_zero this
/-! ### texts -/
def linesL (cur : List UInt8) : List UInt8 → List (List UInt8)
  | [] => if cur = [] then [] else [cur]
  | c :: r => if c = 10 then cur :: linesL [] r else linesL (cur ++ [c]) r
def linesB (s : ByteArray) : List ByteArray := (linesL [] s.data.toList).map fun l => ⟨l.toArray⟩
theorem lines_run : ∀ (a cur r : List UInt8), (∀ c ∈ a, c ≠ 10) → linesL cur (a ++ r) = linesL (cur ++ a) r
  | [], cur, r, _ => by simp
  | c :: a, cur, r, h => by
    rw [List.cons_append, linesL, if_neg (h c (by simp)), lines_run a _ r fun x hx => h x (by simp [hx])]
    simp
def textL (ls : List (List UInt8)) : List UInt8 := ls.flatMap fun l => l ++ [10]
theorem lines_text : ∀ (ls : List (List UInt8)), (∀ l ∈ ls, ∀ c ∈ l, c ≠ 10) → linesL [] (textL ls) = ls
  | [], _ => rfl
  | l :: ls, h => by
    have ih := lines_text ls fun x hx => h x (by simp [hx])
    unfold textL at *
    rw [List.flatMap_cons, List.append_assoc, lines_run l _ _ (h l (by simp))]
    simp only [List.nil_append, List.cons_append]
    rw [linesL, if_pos rfl, ih]
/-- The text of steps. -/
def textS (xs : List StepP) : ByteArray := ⟨(textL (xs.map fun x => (lineS x).data.toList)).toArray⟩
theorem mk_list (s : ByteArray) : (⟨s.data.toList.toArray⟩ : ByteArray) = s := ba_ext (by simp)
theorem lines_textS {xs : List StepP} (h : ∀ x ∈ xs, okS x) : linesB (textS xs) = xs.map lineS := by
  unfold linesB textS
  rw [List.toList_toArray, lines_text]
  · rw [List.map_map]; exact List.map_congr_left fun x _ => mk_list _
  · intro l hl
    obtain ⟨x, hx, rfl⟩ := List.mem_map.1 hl
    exact line_chars (h x hx).1
/-- What Parse answers. -/
def PrsR (s : ByteArray) (xs : List StepP) (n e : Int) : Prop :=
  (4096 < (linesB s).length ∧ xs = [] ∧ n = 0 ∧ e = 2) ∨
  ((linesB s).length ≤ 4096 ∧ xs = [] ∧ e = 82 ∧ ∃ k : Nat, k < (linesB s).length ∧ n = k ∧ ¬ isL (linesB s)[k]! ∧ ∀ i, i < k → isL (linesB s)[i]!) ∨
  ((linesB s).length ≤ 4096 ∧ n = 0 ∧ e = 0 ∧ linesB s = xs.map lineS ∧ ∀ x ∈ xs, okS x ∧ inS x)
theorem map_inj : ∀ {xs ys : List StepP}, (∀ x ∈ xs, okS x ∧ inS x) → (∀ x ∈ ys, okS x ∧ inS x) → xs.map lineS = ys.map lineS → xs = ys
  | [], [], _, _, _ => rfl
  | [], _ :: _, _, _, h => by simp at h
  | _ :: _, [], _, _, h => by simp at h
  | x :: a, y :: b, h1, h2, h => by
    simp only [List.map_cons, List.cons.injEq] at h
    rw [line_inj (h1 x (by simp)).1 (h2 y (by simp)).1 (h1 x (by simp)).2 (h2 y (by simp)).2 h.1, map_inj (fun n hn => h1 n (by simp [hn])) (fun n hn => h2 n (by simp [hn])) h.2]
/-- A text whose lines are those of steps that may be is taken, and these are told. -/
theorem PrsR.of {s : ByteArray} {xs ys : List StepP} {n e : Int} (h : PrsR s xs n e) (hl : linesB s = ys.map lineS) (hy : ∀ y ∈ ys, okS y ∧ inS y) (hn : ys.length ≤ 4096) : n = 0 ∧ e = 0 ∧ xs = ys := by
  have hlen : (linesB s).length = ys.length := by rw [hl, List.length_map]
  rcases h with ⟨h, _⟩ | ⟨_, _, _, k, h1, _, h2, _⟩ | ⟨_, h1, h2, h3, h4⟩
  · omega
  · refine absurd ?_ h2
    have hk : k < ys.length := by omega
    rw [hl, getElem!_pos _ k (by simpa using hk), List.getElem_map]
    exact ⟨_, (hy _ (List.getElem_mem hk)).1, (hy _ (List.getElem_mem hk)).2, rfl⟩
  · exact ⟨h1, h2, map_inj h4 hy (h3.symm.trans hl)⟩
end Go.Proofs.YtbpedjefoajegaaDoor.K
namespace Go.Proofs.YtbpedjefoajegaaDoor.K
open Go Go.RowKit

section
variable {w w0 w' : World} {M : Nat → Prop} {A B L : List Res}
/-- All of a list, as one thing. -/
def Res.all (rs : List Res) : Res :=
  ⟨fun k => ∃ r ∈ rs, r.foot k, fun w => (∀ r ∈ rs, r.holds w) ∧ rs.Pairwise fun (r s : Res) => ∀ b : Nat, r.foot b → ¬ s.foot b, fun h hw => ⟨fun r hr => r.stable (fun b hb => h b ⟨r, hr, hb⟩) (hw.1 r hr), hw.2⟩⟩
theorem Hp.allPush {rs : List Res} {r : Res} (h : Hp w0 M (r :: Res.all rs :: L) w) : Hp w0 M (Res.all (rs ++ [r]) :: L) w := by
  have hap := h.apart
  rw [List.pairwise_cons, List.pairwise_cons] at hap
  obtain ⟨h1, h2, h3⟩ := hap
  have hr : r.holds w := h.holds r (by simp)
  have hrs : (Res.all rs).holds w := h.holds _ (by simp)
  refine ⟨h.fr, ?_, ?_, ?_⟩
  · intro s hs
    rcases List.mem_cons.1 hs with rfl | hs
    · refine ⟨fun t ht => ?_, ?_⟩
      · rcases List.mem_append.1 ht with q | q
        · exact hrs.1 t q
        · simp at q; subst q; exact hr
      · rw [List.pairwise_append]
        refine ⟨hrs.2, by simp, fun u hu t ht b hb hb2 => ?_⟩
        simp at ht
        subst ht
        exact h1 (Res.all rs) (by simp) b hb2 ⟨u, hu, hb⟩
    · exact h.holds s (by simp [hs])
  · intro s hs b hb
    rcases List.mem_cons.1 hs with rfl | hs
    · obtain ⟨t, ht, hb⟩ := hb
      rcases List.mem_append.1 ht with q | q
      · exact h.range (Res.all rs) (by simp) b ⟨t, q, hb⟩
      · simp at q; subst q; exact h.range t (by simp) b hb
    · exact h.range s (by simp [hs]) b hb
  · rw [List.pairwise_cons]
    refine ⟨fun s hs b hb hb2 => ?_, h3⟩
    obtain ⟨t, ht, hb⟩ := hb
    rcases List.mem_append.1 ht with q | q
    · exact h2 s hs b ⟨t, q, hb⟩ hb2
    · simp at q; subst q; exact h1 s (by simp [hs]) b hb hb2
/-- What a callee made is the caller's. -/
theorem Hp.made {r : Res} (h : Hp w0 M L w) (k : Hp w Non [r] w') : Hp w0 M (r :: L) w' :=
  h.new k.fr r (k.holds r (by simp)) fun b hb => by
    obtain ⟨h1, h2⟩ := k.range r (by simp) b hb
    rcases h2 with h2 | h2
    · exact ⟨h2, h1⟩
    · exact h2.elim
end
end Go.Proofs.YtbpedjefoajegaaDoor.K
namespace Go.Proofs.YtbpedjefoajegaaDoor.K
open Go Go.RowKit
section
variable {w w0 : World} {M : Nat → Prop} {L : List Res}
theorem Hp.allPerm {rs rs' : List Res} (hp : rs.Perm rs') (h : Hp w0 M (Res.all rs :: L) w) : Hp w0 M (Res.all rs' :: L) w := by
  refine Hp.turn (A := []) h (Res.all rs') ?_ ?_
  · rintro ⟨h1, h2⟩
    exact ⟨fun r hr => h1 r (hp.mem_iff.2 hr), (hp.pairwise_iff fun {x y} hxy b hb hb2 => hxy b hb2 hb).1 h2⟩
  · rintro b ⟨r, hr, hb⟩
    exact ⟨r, hp.mem_iff.2 hr, hb⟩
theorem Hp.allPop {r : Res} {rs : List Res} (h : Hp w0 M (Res.all (r :: rs) :: L) w) : Hp w0 M (r :: Res.all rs :: L) w := by
  have hap := h.apart
  rw [List.pairwise_cons] at hap
  obtain ⟨h1, h3⟩ := hap
  have hrs : (Res.all (r :: rs)).holds w := h.holds _ (by simp)
  obtain ⟨a1, a2⟩ := hrs
  rw [List.pairwise_cons] at a2
  refine ⟨h.fr, ?_, ?_, ?_⟩
  · intro s hs
    rcases List.mem_cons.1 hs with rfl | hs
    · exact a1 s (by simp)
    · rcases List.mem_cons.1 hs with rfl | hs
      · exact ⟨fun t ht => a1 t (by simp [ht]), a2.2⟩
      · exact h.holds s (by simp [hs])
  · intro s hs b hb
    rcases List.mem_cons.1 hs with rfl | hs
    · exact h.range (Res.all (s :: rs)) (by simp) b ⟨s, by simp, hb⟩
    · rcases List.mem_cons.1 hs with rfl | hs
      · obtain ⟨t, ht, hb⟩ := hb
        exact h.range (Res.all (r :: rs)) (by simp) b ⟨t, by simp [ht], hb⟩
      · exact h.range s (by simp [hs]) b hb
  · rw [List.pairwise_cons, List.pairwise_cons]
    refine ⟨fun s hs b hb hb2 => ?_, fun s hs b hb hb2 => ?_, h3⟩
    · rcases List.mem_cons.1 hs with rfl | hs
      · obtain ⟨t, ht, hb2⟩ := hb2
        exact a2.1 t ht b hb hb2
      · exact h1 s hs b ⟨r, by simp, hb⟩ hb2
    · obtain ⟨t, ht, hb⟩ := hb
      exact h1 s hs b ⟨t, by simp [ht], hb⟩ hb2
theorem Hp.allCons {r : Res} {rs : List Res} (h : Hp w0 M (r :: Res.all rs :: L) w) : Hp w0 M (Res.all (r :: rs) :: L) w :=
  h.allPush.allPerm (List.perm_append_singleton r rs)
end
theorem Hp.madeQ {w w0 w' : World} {M : Nat → Prop} {L L' : List Res} (h : Hp w0 M L w) (k : Hp w Non L' w') : Hp w0 M (L' ++ L) w' := by
  have h' := h.step k.fr
  refine ⟨h'.fr, ?_, ?_, ?_⟩
  · intro s hs
    rcases List.mem_append.1 hs with hs | hs
    · exact k.holds s hs
    · exact h'.holds s hs
  · intro s hs b hb
    rcases List.mem_append.1 hs with hs | hs
    · obtain ⟨q1, q2⟩ := k.range s hs b hb
      rcases q2 with q2 | q2
      · exact ⟨q1, .inl (Nat.le_trans h.fr.size q2)⟩
      · exact q2.elim
    · exact h'.range s hs b hb
  · rw [List.pairwise_append]
    refine ⟨k.apart, h.apart, fun r hr s hs b hb hb2 => ?_⟩
    have q1 := (h.range s hs b hb2).1
    obtain ⟨_, q2⟩ := k.range r hr b hb
    rcases q2 with q2 | q2
    · omega
    · exact q2.elim
theorem erase_perm {α : Type} [Inhabited α] : ∀ {l : List α} {i : Nat}, i < l.length → l.Perm (l[i]! :: l.eraseIdx i)
  | x :: l, 0, _ => by simp
  | x :: l, i + 1, h => by
    have h' : i < l.length := by simpa using h
    rw [show (x :: l)[i + 1]! = l[i]! from by simp, List.eraseIdx_cons_succ]
    exact ((erase_perm h').cons x).trans (List.Perm.swap _ _ _)
theorem set_perm {α : Type} [Inhabited α] {y : α} : ∀ {l : List α} {i : Nat}, i < l.length → (y :: l.eraseIdx i).Perm (l.set i y)
  | x :: l, 0, _ => by simp
  | x :: l, i + 1, h => by
    have h' : i < l.length := by simpa using h
    rw [List.eraseIdx_cons_succ, List.set_cons_succ]
    exact (List.Perm.swap _ _ _).trans ((set_perm h').cons x)
end Go.Proofs.YtbpedjefoajegaaDoor.K
namespace Go.Proofs.YtbpedjefoajegaaDoor.K
open Go Go.RowKit
set_option linter.unusedVariables false
def Res.bld (T e : TypeId) (b : Nat) (p v : Value) (bs : List Value) : Res :=
  ⟨fun k => k = b ∨ v.ownBlock = some k, fun w => w.heap[b]? = some (.cells #[p, v] T (0, 0)) ∧ w.ownsRow 0 e 1 v bs.length bs ∧ v.ownBlock ≠ some b ∧ (p = .pointer none ∨ p = .pointer (some ⟨b, 0, none⟩)), by
    rintro w w' h ⟨h1, h2, h3, h4⟩
    refine ⟨(h b (.inl rfl)).trans h1, ⟨h2.1, ?_⟩, h3, h4⟩
    rcases h2.2 with h2 | ⟨g, cap, cur, hv, hg, hh, r⟩
    · exact .inl h2
    · exact .inr ⟨g, cap, cur, hv, hg, by rw [h g (.inr (by rw [hv]; rfl))]; exact hh, r⟩⟩
theorem owns_up {w : World} {B : Nat} {e : TypeId} {v : Value} {n : Nat} {xs : List Value} (h : w.ownsRow 0 e 1 v n xs) (hB : ∀ k, v.ownBlock = some k → B ≤ k) : w.ownsRow B e 1 v n xs := by
  refine ⟨h.1, ?_⟩
  rcases h.2 with h2 | ⟨g, cap, cur, hv, hg, hh, r⟩
  · exact .inl h2
  · exact .inr ⟨g, cap, cur, hv, hB g (by rw [hv]; rfl), hh, r⟩
theorem owns_dn {w : World} {B : Nat} {e : TypeId} {v : Value} {n : Nat} {xs : List Value} (h : w.ownsRow B e 1 v n xs) : w.ownsRow 0 e 1 v n xs ∧ ∀ k, v.ownBlock = some k → B ≤ k ∧ k < w.heap.size := by
  refine ⟨⟨h.1, ?_⟩, fun k hk => ?_⟩
  · rcases h.2 with h2 | ⟨g, cap, cur, hv, hg, hh, r⟩
    · exact .inl h2
    · exact .inr ⟨g, cap, cur, hv, Nat.zero_le _, hh, r⟩
  · rcases h.2 with h2 | ⟨g, cap, cur, hv, hg, hh, r⟩
    · rw [h2.1] at hk; cases hk
    · rw [hv] at hk
      obtain rfl : g = k := by simpa [Value.ownBlock] using hk
      exact ⟨hg, (Array.getElem?_eq_some_iff.1 hh).1⟩
section
variable {w w0 w' : World} {L : List Res} {T e : TypeId} {b : Nat} {p v : Value} {bs : List Value}
/-- What the kit's contracts ask. -/
theorem Hp.isB (h : Hp w0 Non (Res.bld T e b p v bs :: L) w) : Lib.IsBuilder T e w0.heap.size b bs w := by
  obtain ⟨h1, h2, h3, h4⟩ := Hp.get (A := []) h
  have hf : ∀ k, (Res.bld T e b p v bs).foot k → w0.heap.size ≤ k := fun k hk => Hp.ge (A := []) h k hk
  rcases h4 with rfl | rfl
  · exact .inl ⟨hf b (.inl rfl), v, h1, owns_up h2 fun k hk => hf k (.inr hk), h3⟩
  · exact .inr ⟨hf b (.inl rfl), v, h1, owns_up h2 fun k hk => hf k (.inr hk), h3⟩
theorem Hp.le0 (h : Hp w0 Non L w) : w0.heap.size ≤ w.heap.size := h.fr.size
/-- What they leave. -/
theorem Hp.ofB {bs' : List Value} (h : Hp w0 Non (Res.bld T e b p v bs :: L) w) (k : Lib.BuilderAt T e w0.heap.size b (.pointer (some ⟨b, 0, none⟩)) bs' w') (hB : Below w0.heap.size w w') :
    ∃ v', Hp w0 Non [Res.bld T e b (.pointer (some ⟨b, 0, none⟩)) v' bs'] w' := by
  obtain ⟨k1, v', k2, k3, k4⟩ := k
  obtain ⟨o1, o2⟩ := owns_dn k3
  have hlt : b < w'.heap.size := (Array.getElem?_eq_some_iff.1 k2).1
  refine ⟨v', ⟨Fram.of_below (h.fr.below.trans hB), ?_, ?_, by simp⟩⟩
  · intro r hr; simp at hr; subst hr; exact ⟨k2, o1, k4, .inr rfl⟩
  · intro r hr j hj; simp at hr; subst hr
    rcases hj with rfl | hj
    · exact ⟨hlt, .inl k1⟩
    · exact ⟨(o2 j hj).2, .inl (o2 j hj).1⟩
/-- A new builder. -/
theorem Hp.newB {g : Nat} (h : Hp w0 Non (Res.row g [.pointer none, .slice none 0 0] T :: L) w) : Hp w0 Non (Res.bld T e g (.pointer none) (.slice none 0 0) [] :: L) w :=
  Hp.turn (A := []) h (Res.bld T e g (.pointer none) (.slice none 0 0) []) (fun q => ⟨q, World.ownsRow_nil _ _ _ _, by simp [Value.ownBlock], .inl rfl⟩) fun k hk => by
    rcases hk with hk | hk
    · exact hk
    · simp [Value.ownBlock] at hk
end
end Go.Proofs.YtbpedjefoajegaaDoor.K
namespace Go.Proofs.YtbpedjefoajegaaDoor.K
open Go Go.RowKit
set_option linter.unusedVariables false
/-- A rune that stands in a text: one byte below 128, or bytes of 128 and more. -/
structure RuneAt (s : ByteArray) (pos : Nat) (c : Int) (wd : Nat) : Prop where
  one : 1 ≤ wd
  le : pos + wd ≤ s.size
  rng : 0 ≤ c ∧ c ≤ 2147483647
  low : c < 128 → wd = 1 ∧ byteAt s (pos : Nat) = c
  high : 128 ≤ c → ∀ j, j < wd → 128 ≤ byteAt s ((pos + j : Nat) : Int)
theorem byteAt_get {s : ByteArray} {i : Nat} : byteAt s ((i : Nat) : Int) = ((s.get! i).toNat : Int) := by
  unfold byteAt
  rw [show ((i : Nat) : Int).toNat = i from by omega]
  congr 2
  show _ = s.data[i]!
  rw [Array.getElem!_eq_getD, Array.getD_eq_getD_getElem?, Array.getElem?_toList]; rfl
theorem decode_rune (s : ByteArray) (pos : Nat) (h : pos < s.size) : RuneAt s pos ((Utf8.decode s pos).1 : Nat) (Utf8.decode s pos).2 := by
  have hle := decode_le s pos
  have g0 : byteAt s ((pos : Nat) : Int) = ((s.get! (pos + 0)).toNat : Int) := byteAt_get
  have hb : ∀ k, (s.get! (pos + k)).toNat < 256 := fun k => (s.get! (pos + k)).toNat_lt
  have h0 := hb 0
  have one : 128 ≤ (s.get! (pos + 0)).toNat → RuneAt s pos ((65533 : Nat) : Int) 1 := fun hq => by
    refine ⟨by omega, by omega, by omega, by omega, fun _ j hj => ?_⟩
    obtain rfl : j = 0 := by omega
    rw [show pos + 0 = pos from rfl, g0]; omega
  have hc : ∀ k, ((decide (pos + k < s.size) && (s.get! (pos + k)).toNat / 64 == 2) = true) → pos + k < s.size ∧ 128 ≤ byteAt s ((pos + k : Nat) : Int) := fun k hk => by
    simp only [Bool.and_eq_true, decide_eq_true_eq, beq_iff_eq] at hk
    rw [byteAt_get]
    exact ⟨hk.1, by omega⟩
  simp only [Utf8.decode] at hle ⊢
  split
  · rename_i hlt
    exact ⟨by omega, by omega, by omega, fun _ => ⟨rfl, g0⟩, fun q => by omega⟩
  · rename_i hge
    have hge' : 128 ≤ (s.get! (pos + 0)).toNat := by omega
    have z0 : 128 ≤ byteAt s ((pos : Nat) : Int) := by rw [g0]; omega
    split
    · rename_i hq
      simp only [Bool.and_eq_true] at hq
      obtain ⟨c1, z1⟩ := hc 1 (by simpa using hq.2)
      split
      · rename_i hm
        refine ⟨by omega, by omega, ⟨by omega, ?_⟩, fun q => by omega, fun _ j hj => ?_⟩
        · have := hb 1; omega
        · have : j = 0 ∨ j = 1 := by omega
          rcases this with rfl | rfl
          · exact z0
          · exact z1
      · exact one hge'
    · split
      · rename_i hq
        simp only [Bool.and_eq_true] at hq
        obtain ⟨c1, z1⟩ := hc 1 (by simpa using hq.1.2)
        obtain ⟨c2, z2⟩ := hc 2 (by simpa using hq.2)
        split
        · rename_i hm
          simp only [Bool.and_eq_true, decide_eq_true_eq] at hm
          refine ⟨by omega, by omega, ⟨by omega, ?_⟩, fun q => by omega, fun _ j hj => ?_⟩
          · have := hb 1; have := hb 2; omega
          · have : j = 0 ∨ j = 1 ∨ j = 2 := by omega
            rcases this with rfl | rfl | rfl
            · exact z0
            · exact z1
            · exact z2
        · exact one hge'
      · split
        · rename_i hq
          simp only [Bool.and_eq_true] at hq
          obtain ⟨c1, z1⟩ := hc 1 (by simpa using hq.1.1.2)
          obtain ⟨c2, z2⟩ := hc 2 (by simpa using hq.1.2)
          obtain ⟨c3, z3⟩ := hc 3 (by simpa using hq.2)
          split
          · rename_i hm
            simp only [Bool.and_eq_true, decide_eq_true_eq] at hm
            refine ⟨by omega, by omega, ⟨by omega, ?_⟩, fun q => by omega, fun _ j hj => ?_⟩
            · have := hb 1; have := hb 2; have := hb 3; omega
            · have : j = 0 ∨ j = 1 ∨ j = 2 ∨ j = 3 := by omega
              rcases this with rfl | rfl | rfl | rfl
              · exact z0
              · exact z1
              · exact z2
              · exact z3
          · exact one hge'
        · exact one hge'
def Res.sit (b : Nat) (s : ByteArray) (pos : Nat) : Res := Res.obj b (.stringIter s pos)
section
variable {P : Program} {N : Nat} {ops : Array Oper} {Q : Post} {next : Env → World → Prop} {e : Env} {w w0 : World} {M : Nat → Prop} {B : List Res} {ty : TypeId} {pos : String} {af : Array Edge} {d : Tmp}
theorem opStep.rangeS {T : TypeId} {x : Operand} {s : ByteArray} (hm : P.underlying T = some .string) (hp : Hp w0 M B w) (hx : ev e x = .string s)
    (h : ∀ r w', Hp w0 M (Res.sit r s 0 :: B) w' → next (upd e d (.pointer (some ⟨r, 0, none⟩))) w') :
    opStep P N ops Q ⟨some d, .range T x, ty, pos, af, none⟩ next e w := by
  refine opStep.val (v := .pointer (some ⟨w.heap.size, 0, none⟩)) (w' := w.iter s 0) rfl ?_ (h w.heap.size _ (hp.alloc _))
  simp [execOp, hx, run_range_string w T s hm]
theorem opStep.nextS {x : Operand} {r : Nat} {s : ByteArray} {p : Nat} (hp : Hp w0 M (Res.sit r s p :: B) w) (hx : ev e x = .pointer (some ⟨r, 0, none⟩))
    (h0 : ¬ p < s.size → next (upd e d (.tuple #[.bool false])) w)
    (h1 : ∀ (c : Int) (wd : Nat) w', p < s.size → RuneAt s p c wd → Hp w0 M (Res.sit r s (p + wd) :: B) w' → next (upd e d (.tuple #[.bool true, .int .i64 ((p : Nat) : Int), .int .i32 c])) w') :
    opStep P N ops Q ⟨some d, .next x true, ty, pos, af, none⟩ next e w := by
  have hk : w.heap[r]? = some (.stringIter s p) := Hp.get (A := []) hp
  by_cases hlt : p < s.size
  · refine opStep.val rfl (by simp [execOp, hx, Lib.run_next_any_at (P := P) w r s p ty hk hlt]) (h1 _ _ (w.iterAt r s (p + (Utf8.decode s p).2)) hlt (decode_rune s p hlt) ?_)
    refine Hp.mod (A := []) (w' := w.iterAt r s (p + (Utf8.decode s p).2)) hp ⟨rfl, rfl, rfl, Nat.le_of_eq (Lib.iterAt_size w r s _).symm, fun i hi hm => Lib.iterAt_other w r i s _ (fun q => hm q)⟩ _ (Lib.iterAt_heap w r s p _ hk) fun b hb => ⟨?_, .inl hb⟩
    rw [Lib.iterAt_size]
    exact Hp.lt (A := []) hp b hb
  · exact opStep.val rfl (by simp [execOp, hx, Lib.run_next_end_at (P := P) w r s p ty hk hlt]) (h0 hlt)
def arrInfo (P : Program) (t : TypeId) : Option (Nat × Nat) := match P.underlying t with
  | some (.array n e) => (P.info? e).map fun i => (n, i.size)
  | _ => none
/-- The whole of an array that has an address. -/
theorem opStep.sliceArr {t : TypeId} {x : Operand} {a : Addr} {n sz : Nat} (hT : arrInfo P t = some (n, sz)) (hx : ev e x = .pointer (some a)) (h : next (upd e d (.slice (some a) n n)) w) :
    opStep P N ops Q ⟨some d, .slice t x none none none, ty, pos, af, none⟩ next e w := by
  unfold arrInfo at hT
  split at hT
  · rename_i m el hu
    cases hi : P.info? el with
    | none => simp [hi] at hT
    | some i =>
      simp only [hi, Option.map_some, Option.some.injEq, Prod.mk.injEq] at hT
      obtain ⟨rfl, rfl⟩ := hT
      refine opStep.val rfl ?_ h
      simp [execOp, hx, Instr.sliceAt, run_underlying hu, Instr.sureAddr, Instr.sliceBounds, sizeOf, typeInfo, hi, Addr.add_zero']
  · cases hT
end
end Go.Proofs.YtbpedjefoajegaaDoor.K
namespace Go.Proofs.YtbpedjefoajegaaDoor.K
open Go Go.Proofs Go.RowKit Go.Shelf
set_option linter.unusedVariables false
def rS : Go.Shelf.Ren := ⟨fun | 146 => 39 | 221 => 53 | 268 => 60 | 138 => 61 | 143 => 62 | 195 => 71 | 197 => 72 | 218 => 73 | 219 => 74 | 260 => 86 | 217 => 80 | 225 => 87 | 224 => 88 | 267 => 89 | 266 => 93 | 314 => 96 | n => n,
  fun | 9 => 9 | 31 => 36 | 3 => 3 | 4 => 4 | 0 => 0 | 105 => 105 | 21 => 21 | 5 => 5 | 46 => 84 | 119 => 125 | 139 => 128 | 138 => 127 | 146 => 129 | 51 => 116 | n => n,
  fun | 1 => 3 | 3 => 6 | 4 => 7 | n => n⟩
theorem lS : Lays.n146 Tryd.prog rS := {
  mixed := (by kernel_rfl),
  f138 := Tryd.func61.trans (congrArg some (by kernel_rfl)),
  f143 := Tryd.func62.trans (congrArg some (by kernel_rfl)),
  f146 := Tryd.func39.trans (congrArg some (by kernel_rfl)),
  f195 := Tryd.func71.trans (congrArg some (by kernel_rfl)),
  f197 := Tryd.func72.trans (congrArg some (by kernel_rfl)),
  f217 := Tryd.func80.trans (congrArg some (by kernel_rfl)),
  f218 := Tryd.func73.trans (congrArg some (by kernel_rfl)),
  f219 := Tryd.func74.trans (congrArg some (by kernel_rfl)),
  f221 := Tryd.func53.trans (congrArg some (by kernel_rfl)),
  f224 := Tryd.func88.trans (congrArg some (by kernel_rfl)),
  f225 := Tryd.func87.trans (congrArg some (by kernel_rfl)),
  f260 := Tryd.func86.trans (congrArg some (by kernel_rfl)),
  f266 := Tryd.func93.trans (congrArg some (by kernel_rfl)),
  f267 := Tryd.func89.trans (congrArg some (by kernel_rfl)),
  f268 := Tryd.func60.trans (congrArg some (by kernel_rfl)),
  f314 := Tryd.func96.trans (congrArg some (by kernel_rfl)),
  t0 := Tryd.underlying0,
  a0 := Tryd.isAgg0,
  z0 := Tryd.sizeOf0,
  v0 := Tryd.zeroValue0,
  t3 := Tryd.underlying3,
  a3 := Tryd.isAgg3,
  z3 := Tryd.sizeOf3,
  v3 := Tryd.zeroValue3,
  t4 := Tryd.underlying4,
  a4 := Tryd.isAgg4,
  z4 := Tryd.sizeOf4,
  v4 := Tryd.zeroValue4,
  t5 := Tryd.underlying5,
  a5 := Tryd.isAgg5,
  z5 := Tryd.sizeOf5,
  v5 := Tryd.zeroValue5,
  t9 := Tryd.underlying9,
  a9 := Tryd.isAgg9,
  z9 := Tryd.sizeOf9,
  v9 := Tryd.zeroValue9,
  t21 := Tryd.underlying21,
  a21 := Tryd.isAgg21,
  z21 := Tryd.sizeOf21,
  v21 := Tryd.zeroValue21,
  t31 := Tryd.underlying36,
  a31 := Tryd.isAgg36,
  z31 := Tryd.sizeOf36,
  v31 := Tryd.zeroValue36,
  t46 := Tryd.underlying84,
  a46 := Tryd.isAgg84,
  z46 := Tryd.sizeOf84,
  v46 := Tryd.zeroValue84,
  t51 := Tryd.underlying116,
  a51 := Tryd.isAgg116,
  z51 := Tryd.sizeOf116,
  v51 := Tryd.zeroValue116,
  t105 := Tryd.underlying105,
  a105 := Tryd.isAgg105,
  z105 := Tryd.sizeOf105,
  v105 := Tryd.zeroValue105,
  t119 := Tryd.underlying125,
  a119 := Tryd.isAgg125,
  z119 := Tryd.sizeOf125,
  t138 := Tryd.underlying127,
  a138 := Tryd.isAgg127,
  z138 := Tryd.sizeOf127,
  v138 := Tryd.zeroValue127,
  t139 := Tryd.underlying128,
  a139 := Tryd.isAgg128,
  z139 := Tryd.sizeOf128,
  v139 := Tryd.zeroValue128,
  t146 := Tryd.underlying129,
  a146 := Tryd.isAgg129,
  z146 := Tryd.sizeOf129,
  v146 := Tryd.zeroValue129,
  g1 := (by kernel_rfl),
  g3 := (by kernel_rfl),
  g4 := (by kernel_rfl) }
def rX : Go.Shelf.Ren := ⟨fun | 137 => 65 | 217 => 80 | 266 => 93 | n => n,
  fun | 9 => 9 | 5 => 5 | 3 => 3 | n => n,
  fun | _ => 0⟩
theorem lX : Lays.n137 Tryd.prog rX := {
  mixed := (by kernel_rfl),
  f137 := Tryd.func65.trans (congrArg some (by kernel_rfl)),
  f217 := Tryd.func80.trans (congrArg some (by kernel_rfl)),
  f266 := Tryd.func93.trans (congrArg some (by kernel_rfl)),
  t3 := Tryd.underlying3,
  a3 := Tryd.isAgg3,
  z3 := Tryd.sizeOf3,
  v3 := Tryd.zeroValue3,
  t5 := Tryd.underlying5,
  a5 := Tryd.isAgg5,
  z5 := Tryd.sizeOf5,
  v5 := Tryd.zeroValue5,
  t9 := Tryd.underlying9,
  a9 := Tryd.isAgg9,
  z9 := Tryd.sizeOf9,
  v9 := Tryd.zeroValue9 }
def rJ : Go.Shelf.Ren := ⟨fun | 167 => 22 | 156 => 30 | 165 => 51 | 166 => 21 | 169 => 23 | 240 => 45 | 241 => 58 | 276 => 55 | 277 => 70 | n => n,
  fun | 31 => 36 | 9 => 9 | 3 => 3 | 4 => 4 | 0 => 0 | 20 => 20 | 72 => 48 | 76 => 51 | 70 => 46 | 37 => 28 | 75 => 50 | 127 => 79 | 164 => 89 | 5 => 5 | 80 => 54 | n => n,
  fun | _ => 0⟩
theorem lJ : Lays.n156 Tryd.prog rJ := {
  mixed := (by kernel_rfl),
  f156 := Tryd.func30.trans (congrArg some (by kernel_rfl)),
  f165 := Tryd.func51.trans (congrArg some (by kernel_rfl)),
  f166 := Tryd.func21.trans (congrArg some (by kernel_rfl)),
  f169 := Tryd.func23.trans (congrArg some (by kernel_rfl)),
  f240 := Tryd.func45.trans (congrArg some (by kernel_rfl)),
  f241 := Tryd.func58.trans (congrArg some (by kernel_rfl)),
  f276 := Tryd.func55.trans (congrArg some (by kernel_rfl)),
  f277 := Tryd.func70.trans (congrArg some (by kernel_rfl)),
  t0 := Tryd.underlying0,
  a0 := Tryd.isAgg0,
  z0 := Tryd.sizeOf0,
  v0 := Tryd.zeroValue0,
  t3 := Tryd.underlying3,
  a3 := Tryd.isAgg3,
  z3 := Tryd.sizeOf3,
  v3 := Tryd.zeroValue3,
  t4 := Tryd.underlying4,
  a4 := Tryd.isAgg4,
  z4 := Tryd.sizeOf4,
  v4 := Tryd.zeroValue4,
  t9 := Tryd.underlying9,
  a9 := Tryd.isAgg9,
  z9 := Tryd.sizeOf9,
  v9 := Tryd.zeroValue9,
  t20 := Tryd.underlying20,
  a20 := Tryd.isAgg20,
  z20 := Tryd.sizeOf20,
  v20 := Tryd.zeroValue20,
  t31 := Tryd.underlying36,
  a31 := Tryd.isAgg36,
  z31 := Tryd.sizeOf36,
  v31 := Tryd.zeroValue36,
  t37 := Tryd.underlying28,
  a37 := Tryd.isAgg28,
  z37 := Tryd.sizeOf28,
  v37 := Tryd.zeroValue28,
  t70 := Tryd.underlying46,
  a70 := Tryd.isAgg46,
  z70 := Tryd.sizeOf46,
  v70 := Tryd.zeroValue46,
  t72 := Tryd.underlying48,
  a72 := Tryd.isAgg48,
  z72 := Tryd.sizeOf48,
  v72 := Tryd.zeroValue48,
  t75 := Tryd.underlying50,
  a75 := Tryd.isAgg50,
  z75 := Tryd.sizeOf50,
  v75 := Tryd.zeroValue50,
  t76 := Tryd.underlying51,
  a76 := Tryd.isAgg51,
  z76 := Tryd.sizeOf51,
  v76 := Tryd.zeroValue51,
  t127 := Tryd.underlying79,
  a127 := Tryd.isAgg79,
  z127 := Tryd.sizeOf79,
  v127 := Tryd.zeroValue79,
  t164 := Tryd.underlying89,
  a164 := Tryd.isAgg89,
  z164 := Tryd.sizeOf89,
  v164 := Tryd.zeroValue89 }
theorem xJ : Builder.Extra Tryd.prog rJ where
  sizeBuilder := by kernel_rfl
  liesBuilder := by kernel_rfl
  t5 := Tryd.underlying5
  a5 := Tryd.isAgg5
  z5 := Tryd.sizeOf5
  v5 := Tryd.zeroValue5
  infoByte := by kernel_rfl
  cellsByte := by kernel_rfl
  sizeByte := by kernel_rfl
  neB5 := by decide
theorem lW : Lays.n166 Tryd.prog rJ := { lJ with }
abbrev xW := xJ
theorem lT : Lays.n169 Tryd.prog rJ := { lJ with }
abbrev xT := xJ
theorem lB : Lays.n167 Tryd.prog rJ := { lJ with f167 := Tryd.func22.trans (congrArg some (by kernel_rfl)), t5 := xJ.t5, a5 := xJ.a5, z5 := xJ.z5, v5 := xJ.v5 }
abbrev xB := xJ
theorem split_c {w0 w : World} {L : List Res} (s : ByteArray) (hs : s.size ≤ 4294967280) (hl : LibP w) (hp : Hp w0 Non L w) : Calls Tryd.prog 39 #[.string s, .string ⟨#[32]⟩] w (fun x w' => ∃ b n, x = .returned (.slice (some ⟨b, 0, none⟩) n n) ∧ Hp w0 Non (Res.lst b ⟨some ⟨b, 0, none⟩, n, n⟩ (wordsB s) :: L) w') := by
  obtain ⟨v, h1, m, rfl⟩ := hl.mx
  refine (Any.strings_Split lS (by kernel_rfl) s ⟨#[32]⟩ m w (by omega) h1 (by decide)).mono ?_
  rintro e w' ⟨rfl, rfl⟩
  have hlen := Lib.splitB_all ⟨#[32]⟩ (by decide) 0 _ s rfl
  have hle := Lib.countB_le ⟨#[32]⟩ (by decide) s.size s (Nat.le_refl _)
  refine ⟨_, _, rfl, hp.new (Fram.alloc _ w _) _ (lst_row (MapKept.heap_alloc w _).1 hlen (by omega)) fun k hk => ?_⟩
  rw [show k = w.heap.size from hk]
  exact ⟨Nat.le_refl _, by simp⟩
theorem atoi_b (s : ByteArray) (hs : s.size ≤ 281474976710656) (w : World) (hl : LibP w) : Calls Tryd.prog 54 #[.string s] w (fun x w' => ∃ v er, x = .returned (.tuple #[.int .i64 v, er]) ∧ inI v ∧ ((er = .nilIface ∧ Lib.atoiAll s.data.toList = .ok v) ∨ ((∃ t g, er = .iface t (.pointer (some ⟨g, 0, none⟩))) ∧ ∀ u, Lib.atoiAll s.data.toList ≠ .ok u)) ∧ Fram Non w w') := by
  obtain ⟨e1, h1, k1⟩ := hl.syn
  obtain ⟨e2, h2, k2⟩ := hl.rng
  by_cases hok : ∃ v, Lib.atoiAll s.data.toList = .ok v
  · obtain ⟨v, hr⟩ := hok
    refine (Any.strconv_Atoi_ok lA s (by omega) v hr w).mono ?_
    rintro e w' ⟨rfl, hw⟩
    exact ⟨v, _, rfl, Lib.atoiAll_bounds hr, .inl ⟨rfl, hr⟩, fram_bytes hw⟩
  · by_cases hrg : Lib.atoiAll s.data.toList = .range
    · refine (Any.strconv_Atoi_range lA s hs hrg e2 w h2 k2).mono ?_
      rintro e w' ⟨N, rfl, _, _, hb⟩
      exact ⟨_, _, rfl, Lib.atoiSat_bounds _, .inr ⟨⟨_, _, rfl⟩, fun u hu => hok ⟨u, hu⟩⟩, Fram.of_below hb⟩
    · refine (Any.strconv_Atoi_syntax lA s hs (by
        cases hx : Lib.atoiAll s.data.toList
        · exact absurd ⟨_, hx⟩ hok
        · rfl
        · exact absurd hx hrg) e1 w h1 k1).mono ?_
      rintro e w' ⟨N, rfl, _, _, hb⟩
      exact ⟨_, _, rfl, ⟨by decide, by decide⟩, .inr ⟨⟨_, _, rfl⟩, fun u hu => hok ⟨u, hu⟩⟩, Fram.of_below hb⟩
theorem ixb_c (s : ByteArray) (c : Int) (w : World) : Calls Tryd.prog 65 #[.string s, .int .u8 c] w (fun x w' => x = .returned (.int .i64 (Lib.indexByte s.data.toList c.toNat.toUInt8)) ∧ Fram Non w w') :=
  (Any.strings_IndexByte lX s c w).mono fun e w' ⟨h1, h2⟩ => ⟨h1, h2 ▸ Fram.refl _ _⟩
theorem join_c {w0 w : World} {L : List Res} {a : Option Addr} {n c : Nat} {ws : List ByteArray} (h0 : 0 < n) (hn : n ≤ 140737488355328) (hb : (joinB ws).size ≤ 140737488355328) (hp : Hp w0 Non (Res.own 9 1 (.slice a n c) n (List.flatMap strc ws) :: L) w) : Calls Tryd.prog 30 #[.slice a n c, .string ⟨#[32]⟩] w (fun x w' => x = .returned (.string (joinB ws)) ∧ Fram Non w w') := by
  have hlen : ws.length = n := own_flat (sz := 1) (fun _ => rfl) (by decide) hp.get0
  have hcap := own_cap hp.get0
  have hrd := (SlR.own hp.get0)
  have hs := hrd.some h0
  rcases hp.get0.2 with ⟨q, _⟩ | ⟨g, cap, cur, hv, hg, hh, _⟩
  · simp at q; omega
  · simp at hv
    obtain ⟨rfl, _⟩ := hv
    subst hlen
    refine (Any.strings_Join lJ xJ g 0 c ws ⟨#[32]⟩ w (fun j x hj => ?_) (Array.getElem?_eq_some_iff.1 hh).1 hn hcap (by rw [show (Lib.join (ws.map (·.data.toList)) (⟨#[32]⟩ : ByteArray).data.toList).length = (joinB ws).size from by rw [size_list]; unfold joinB; rw [List.toList_toArray]]; exact hb)).mono ?_
    · have := hrd.rd j (.string x) (by rw [strc_map]; simp [hj])
      rwa [show (adr (some (⟨g, 0, none⟩ : Addr))).add j = ⟨g, 0 + j, none⟩ from add_mk g 0 j] at this
    · rintro e w' ⟨rfl, hw⟩
      exact ⟨rfl, Fram.of_below hw⟩
theorem bws_c {w0 w : World} {L : List Res} {b : Nat} {p v : Go.Value} {l : List UInt8} (s : ByteArray) (hlen : l.length + s.size ≤ 140737488355328) (hp : Hp w0 Non (Res.bld 48 5 b p v (Lib.byteCells l) :: L) w) : Calls Tryd.prog 21 #[.pointer (some ⟨b, 0, none⟩), .string s] w (fun x w' => ∃ p' v', x = .returned (.tuple #[.int .i64 s.size, .nilIface]) ∧ Hp w0 Non [Res.bld 48 5 b p' v' (Lib.byteCells (l ++ s.data.toList))] w') := by
  refine (Any.Builder_WriteString lW xW w0.heap.size b _ s w hp.isB (by simpa [Lib.byteCells] using hlen) hp.le0).mono ?_
  rintro e w' ⟨rfl, h1, h2⟩
  rw [Lib.strCells_eq, ← Lib.byteCells_append] at h1
  obtain ⟨v', h3⟩ := hp.ofB h1 h2
  exact ⟨_, v', rfl, h3⟩
theorem bwb_c {w0 w : World} {L : List Res} {b : Nat} {p v : Go.Value} {l : List UInt8} (c : Int) (hc : 0 ≤ c ∧ c ≤ 255) (hlen : l.length + 1 ≤ 140737488355328) (hp : Hp w0 Non (Res.bld 48 5 b p v (Lib.byteCells l) :: L) w) : Calls Tryd.prog 22 #[.pointer (some ⟨b, 0, none⟩), .int .u8 c] w (fun x w' => ∃ p' v', x = .returned .nilIface ∧ Hp w0 Non [Res.bld 48 5 b p' v' (Lib.byteCells (l ++ [UInt8.ofNat c.toNat]))] w') := by
  refine (Any.Builder_WriteByte lB xB w0.heap.size b _ c w hp.isB (by simpa [Lib.byteCells] using hlen) hp.le0).mono ?_
  rintro e w' ⟨rfl, h1, h2⟩
  rw [show Lib.byteCells l ++ [Go.Value.int .u8 c] = Lib.byteCells (l ++ [UInt8.ofNat c.toNat]) from by
    rw [Lib.byteCells_append]
    have : ((UInt8.ofNat c.toNat).toNat : Int) = c := by
      rw [UInt8.toNat_ofNat', Nat.mod_eq_of_lt (by omega)]; omega
    simp only [Lib.byteCells, List.map_cons, List.map_nil, this]] at h1
  obtain ⟨v', h3⟩ := hp.ofB h1 h2
  exact ⟨_, v', rfl, h3⟩
theorem bst_c {w0 w : World} {L : List Res} {b : Nat} {p v : Go.Value} {l : List UInt8} (hp : Hp w0 Non (Res.bld 48 5 b p v (Lib.byteCells l) :: L) w) : Calls Tryd.prog 23 #[.pointer (some ⟨b, 0, none⟩)] w (fun x w' => x = .returned (.string ⟨l.toArray⟩) ∧ Fram Non w0 w') := by
  refine (Any.Builder_String_any lT xT w0.heap.size b l w hp.isB hp.le0).mono ?_
  rintro e w' ⟨rfl, h2⟩
  exact ⟨rfl, Fram.of_below (hp.fr.below.trans h2)⟩
end Go.Proofs.YtbpedjefoajegaaDoor.K
namespace Go.Proofs.YtbpedjefoajegaaDoor.K
open Go Go.Proofs Go.RowKit
set_option linter.unusedVariables false
set_option linter.unusedSimpArgs false
set_option maxRecDepth 20000
set_option maxHeartbeats 4000000

structure GStep where
  Kind : Int
  A : Int
  B : Int
  Key : ByteArray
  Value : SlH
  L : SlH
def GStep.cells (x : GStep) : List Go.Value := [.int .i64 x.Kind, .int .i64 x.A, .int .i64 x.B, .string x.Key, x.Value.v, x.L.v]
def GStep.val (x : GStep) : Go.Value := .agg x.cells.toArray
instance : Inhabited GStep := ⟨⟨0, 0, 0, ByteArray.empty, ⟨none, 0, 0⟩, ⟨none, 0, 0⟩⟩⟩
theorem GStep.len (x : GStep) : x.cells.length = 6 := rfl
structure Gscript_form where
  word : ByteArray
  a : Bool
  b : Bool
  key : Bool
  value : Bool
  pattern : Bool
  list : Bool
def Gscript_form.cells (x : Gscript_form) : List Go.Value := [.string x.word, .bool x.a, .bool x.b, .bool x.key, .bool x.value, .bool x.pattern, .bool x.list]
def Gscript_form.val (x : Gscript_form) : Go.Value := .agg x.cells.toArray
instance : Inhabited Gscript_form := ⟨⟨ByteArray.empty, false, false, false, false, false, false⟩⟩
theorem Gscript_form.len (x : Gscript_form) : x.cells.length = 7 := rfl
abbrev tyB : TypeId := 5
def formsC : List Go.Value := [.string ⟨#[]⟩, .bool false, .bool false, .bool false, .bool false, .bool false, .bool false, .string ⟨#[112, 117, 116]⟩, .bool true, .bool false, .bool true, .bool true, .bool false, .bool false, .string ⟨#[103, 101, 116]⟩, .bool true, .bool false, .bool true, .bool false, .bool false, .bool false, .string ⟨#[99, 97, 110, 99, 101, 108]⟩, .bool true, .bool false, .bool false, .bool false, .bool false, .bool false, .string ⟨#[116, 105, 99, 107]⟩, .bool true, .bool false, .bool false, .bool false, .bool false, .bool false, .string ⟨#[115, 116, 111, 112]⟩, .bool true, .bool false, .bool false, .bool false, .bool false, .bool false, .string ⟨#[100, 101, 108, 105, 118, 101, 114]⟩, .bool true, .bool false, .bool false, .bool false, .bool false, .bool false, .string ⟨#[100, 114, 111, 112]⟩, .bool true, .bool false, .bool false, .bool false, .bool false, .bool false, .string ⟨#[100, 111, 117, 98, 108, 101]⟩, .bool true, .bool false, .bool false, .bool false, .bool false, .bool false, .string ⟨#[98, 117, 114, 115, 116]⟩, .bool true, .bool true, .bool false, .bool false, .bool true, .bool false, .string ⟨#[99, 117, 116]⟩, .bool true, .bool true, .bool false, .bool false, .bool false, .bool false, .string ⟨#[108, 111, 115, 101]⟩, .bool true, .bool false, .bool false, .bool false, .bool false, .bool false, .string ⟨#[99, 114, 97, 115, 104]⟩, .bool true, .bool false, .bool false, .bool false, .bool false, .bool true, .string ⟨#[115, 116, 97, 114, 116]⟩, .bool true, .bool false, .bool false, .bool false, .bool false, .bool false, .string ⟨#[100, 105, 101]⟩, .bool true, .bool true, .bool false, .bool false, .bool false, .bool true, .string ⟨#[99, 111, 109, 112, 97, 99, 116]⟩, .bool true, .bool false, .bool false, .bool false, .bool false, .bool false, .string ⟨#[114, 111, 117, 110, 100]⟩, .bool false, .bool true, .bool false, .bool false, .bool false, .bool true]
structure LibS (w : World) : Prop where
  lib : LibP w
  tab : (Res.row 0 formsC 57).holds w
theorem row_at {w w' : World} {b : Nat} {c : List Go.Value} {t : TypeId} (h : (Res.row b c t).holds w) (hf : Fram Non w w') : (Res.row b c t).holds w' := (Res.row b c t).stable (fun k hk => by
  have hk : k = b := hk
  subst hk
  exact hf.block k (Array.getElem?_eq_some_iff.1 h).1 (fun q => q)) h
theorem LibS.fram {w w' : World} (h : LibS w) (hf : Fram Non w w') : LibS w' := ⟨h.lib.fram hf, row_at h.tab hf⟩
end Go.Proofs.YtbpedjefoajegaaDoor.K
namespace Go.Proofs.YtbpedjefoajegaaDoor.K
open Go Go.RowKit

def bytesI (s : ByteArray) : List Int := s.data.toList.map fun b => (b.toNat : Int)
theorem bytesI_len (s : ByteArray) : (bytesI s).length = s.size := by simp [bytesI]
theorem strOf_data (l : List UInt8) : strOf (l.map fun b => (b.toNat : Int)) = ⟨l.toArray⟩ := by
  suffices h : ∀ (l m : List UInt8), (l.map fun b => (b.toNat : Int)).foldl (fun r n => r.push (UInt8.ofNat n.toNat)) (⟨m.toArray⟩ : ByteArray) = ⟨(m ++ l).toArray⟩ by
    have := h l []
    rw [List.nil_append] at this
    exact this
  intro l
  induction l with
  | nil => intro m; simp
  | cons b l ih =>
    intro m
    rw [List.map_cons, List.foldl_cons]
    have : (⟨m.toArray⟩ : ByteArray).push (UInt8.ofNat ((b.toNat : Int)).toNat) = ⟨(m ++ [b]).toArray⟩ := by
      simp [ByteArray.push]
    rw [this, ih]
    simp
theorem strOf_bytes (s : ByteArray) : strOf (bytesI s) = s := by
  unfold bytesI
  rw [strOf_data]
/-- A row that begins with a string's bytes. -/
def Res.bs (b : Nat) (s : ByteArray) : Res :=
  ⟨fun k => k = b, fun w => ∃ (cs : Array Value) (t : TypeId) (m : Nat × Nat), w.heap[b]? = some (.cells cs t m) ∧ ∀ (j : Nat) (u : Value), ((bytesI s).flatMap u8c)[j]? = some u → cs[j]? = some u, by
    rintro w w' h ⟨cs, t, m, h1, h2⟩
    exact ⟨cs, t, m, (h _ rfl).trans h1, h2⟩⟩
theorem SlR.bs {w : World} {b : Nat} {s : ByteArray} (h : (Res.bs b s).holds w) : SlR w (Option.some ⟨b, 0, none⟩) s.size ((bytesI s).flatMap u8c) := by
  obtain ⟨cs, t, m, h1, h2⟩ := h
  refine ⟨fun j u hu => ?_, fun _ => rfl⟩
  show w.cell? ((⟨b, 0, none⟩ : Addr).add j) = Option.some u
  rw [add_mk, Nat.zero_add]
  simp [World.cell?, h1, h2 j u hu]
theorem VB.mk {w : World} {s : SlH} {ns : List Int} (h : SlR w s.a s.n (ns.flatMap u8c)) (hn : ns.length = s.n) : VB w s ∧ valAt w s = strOf ns := by
  have e := bytesAt_of h hn
  unfold VB valAt
  rw [e]
  exact ⟨h, rfl⟩
def convSB (P : Program) (src dst : TypeId) : Bool := match P.underlying src, P.underlying dst with
  | some .string, some (.slice e) => (match P.underlying e with | some (.int .u8) => true | _ => false)
  | _, _ => false
section
variable {P : Program} {N : Nat} {ops : Array Oper} {Q : Post} {next : Env → World → Prop} {e : Env} {w w0 : World} {M : Nat → Prop} {L : List Res} {ty : TypeId} {pos : String} {af : Array Edge} {d : Nat}
theorem opStep.strBytes {src dst : TypeId} {x : Operand} {s : ByteArray} (hp : Hp w0 M L w) (hT : convSB P src dst = true) (hx : ev e x = .string s)
    (h : ∀ b c w', Hp w0 M (Res.bs b s :: L) w' → next (upd e d (.slice (some ⟨b, 0, none⟩) s.size c)) w') :
    opStep P N ops Q ⟨some d, .convert src dst x, ty, pos, af, none⟩ next e w := by
  unfold convSB at hT
  split at hT
  · rename_i E hs hd
    split at hT
    · rename_i he
      have hrun := Go.Lib.run_convert_string_bytes w src dst E s hs hd he
      refine opStep.val (v := .slice (some ⟨w.heap.size, 0, none⟩) s.size (grownCap w s.size 0 E)) (w' := Go.Lib.bytesWorld w E s) rfl ?_ (h w.heap.size _ _ ?_)
      · simp [execOp, hx, hrun]
      · refine hp.new (w' := Go.Lib.bytesWorld w E s) ⟨rfl, rfl, rfl, by rw [Go.Lib.bytesWorld_size]; omega, fun k hk _ => Go.Lib.bytesWorld_at_old w E s k hk⟩ _ ⟨_, _, _, Go.Lib.bytesWorld_at_new w E s, fun j u hu => ?_⟩ fun b hb => ?_
        · have hl : ((bytesI s).flatMap u8c).length = s.size := by rw [u8c_map]; simp [bytesI]
          have hj : j < s.size := by rw [← hl]; exact (List.getElem?_eq_some_iff.1 hu).1
          rw [u8c_map] at hu
          simp only [bytesI, List.map_map, List.getElem?_map, Option.map_eq_some_iff] at hu
          obtain ⟨c, hc, rfl⟩ := hu
          have hc2 : s.data[j]? = some c := by simpa using hc
          obtain ⟨hj2, rfl⟩ := Array.getElem?_eq_some_iff.1 hc2
          simp [Go.Lib.bytesCells, Array.getElem?_append, hj]
        · have : b = w.heap.size := hb
          subst this
          rw [Go.Lib.bytesWorld_size]; omega
    · cases hT
  · cases hT
end
end Go.Proofs.YtbpedjefoajegaaDoor.K
namespace Go.Proofs.YtbpedjefoajegaaDoor.K
open Go Go.RowKit
set_option linter.unusedVariables false
instance : Inhabited StepP := ⟨⟨0, 0, 0, ⟨#[]⟩, ⟨#[]⟩, []⟩⟩
abbrev i64c : Int → List Go.Value := fun y => [.int .i64 y]
/-- A step that lies so: its lists in blocks of F. -/
structure StR (w : World) (F : Nat → Prop) (s : GStep) (x : StepP) : Prop where
  kind : s.Kind = x.Kind
  a : s.A = x.A
  b : s.B = x.B
  key : s.Key = x.Key
  vF : 0 < s.Value.n → F (adr s.Value.a).block
  vn : s.Value.n = x.Value.size
  vr : SlR w s.Value.a s.Value.n ((bytesI x.Value).flatMap u8c)
  lF : 0 < s.L.n → F (adr s.L.a).block
  ln : s.L.n = x.L.length
  lr : SlR w s.L.a s.L.n (x.L.flatMap i64c)
theorem StR.vv {w : World} {F : Nat → Prop} {s : GStep} {x : StepP} (h : StR w F s x) : VB w s.Value ∧ valAt w s.Value = x.Value := by
  have := VB.mk h.vr (by rw [bytesI_len, h.vn])
  rwa [strOf_bytes] at this
theorem StR.vb {w : World} {F : Nat → Prop} {s : GStep} {x : StepP} (h : StR w F s x) : VB w s.Value := h.vv.1
theorem StR.val {w : World} {F : Nat → Prop} {s : GStep} {x : StepP} (h : StR w F s x) : valAt w s.Value = x.Value := h.vv.2
def Tr : Nat → Prop := fun _ => True
section
variable {w w' : World} {F : Nat → Prop} {s : GStep} {x : StepP}
theorem slr_keep {a : Option Addr} {n : Nat} {f : Int → List Value} {l : List Int} (h : SlR w a n (l.flatMap f)) (hn : n = l.length) (hf : 0 < n → w'.heap[(adr a).block]? = w.heap[(adr a).block]?) : SlR w' a n (l.flatMap f) := by
  refine ⟨?_, h.some⟩
  rcases Nat.eq_zero_or_pos n with h0 | h0
  · have : l = [] := List.eq_nil_of_length_eq_zero (by omega)
    rw [this]
    intro j u hu
    simp at hu
  · exact h.rd.keep fun _ => hf h0
theorem StR.keep (h : StR w F s x) (hf : ∀ b, F b → w'.heap[b]? = w.heap[b]?) : StR w' F s x :=
  ⟨h.kind, h.a, h.b, h.key, h.vF, h.vn, slr_keep h.vr (by rw [bytesI_len, h.vn]) fun h0 => hf _ (h.vF h0), h.lF, h.ln, slr_keep h.lr h.ln fun h0 => hf _ (h.lF h0)⟩
theorem StR.fram (h : StR w F s x) (hf : Fram Non w w') : StR w' F s x := ⟨h.kind, h.a, h.b, h.key, h.vF, h.vn, SlR.fram h.vr hf, h.lF, h.ln, SlR.fram h.lr hf⟩
theorem StR.wide {F' : Nat → Prop} (h : StR w F s x) (hF : ∀ k, F k → F' k) : StR w F' s x := ⟨h.kind, h.a, h.b, h.key, fun q => hF _ (h.vF q), h.vn, h.vr, fun q => hF _ (h.lF q), h.ln, h.lr⟩
theorem strOf_len : ∀ l : List Int, (strOf l).size = l.length := by
  intro l
  unfold strOf
  suffices h : ∀ (l : List Int) (b : ByteArray), (l.foldl (fun r n => r.push (UInt8.ofNat n.toNat)) b).size = b.size + l.length by simpa using h l ByteArray.empty
  intro l
  induction l with
  | nil => simp
  | cons y l ih => intro b; rw [List.foldl_cons, ih]; simp [ByteArray.size_push]; omega
end
/-- Steps that lie so. -/
def StL (w : World) (F : Nat → Prop) (cl : List GStep) (xs : List StepP) : Prop := cl.length = xs.length ∧ ∀ i, i < cl.length → StR w F cl[i]! xs[i]!
theorem StL.fram {w w' : World} {F : Nat → Prop} {cl : List GStep} {xs : List StepP} (h : StL w F cl xs) (hf : Fram Non w w') : StL w' F cl xs := ⟨h.1, fun i hi => (h.2 i hi).fram hf⟩
theorem StL.tr {w : World} {F : Nat → Prop} {cl : List GStep} {xs : List StepP} (h : StL w F cl xs) : StL w Tr cl xs := ⟨h.1, fun i hi => (h.2 i hi).wide fun _ _ => trivial⟩
def Res.sv (F : Nat → Prop) (cl : List GStep) (xs : List StepP) : Res :=
  ⟨F, fun w => StL w F cl xs, fun h hw => ⟨hw.1, fun i hi => (hw.2 i hi).keep h⟩⟩
theorem slr_nil0 (w : World) : SlR w none 0 ((bytesI ⟨#[]⟩).flatMap u8c) := ⟨fun j u hu => by simp [bytesI] at hu, fun q => absurd q (by decide)⟩
theorem apS {α : Type} [Inhabited α] {l : List α} {x : α} {i : Nat} (h : i < l.length + 1) : (l ++ [x])[i]! = if i < l.length then l[i]! else x := by
  rw [List.getElem!_eq_getElem?_getD, List.getElem!_eq_getElem?_getD, List.getElem?_append]
  by_cases h1 : i < l.length
  · simp [h1]
  · obtain rfl : i = l.length := by omega
    simp
section
variable {w w0 : World} {M : Nat → Prop} {L : List Res} {F G : Nat → Prop} {cl : List GStep} {xs : List StepP} {s : GStep} {x : StepP}
theorem Hp.svNil (h : Hp w0 M L w) : Hp w0 M (Res.sv (fun _ => False) [] [] :: L) w :=
  h.new (Fram.refl _ _) _ ⟨rfl, fun i hi => by simp at hi⟩ fun b hb => by cases hb
/-- One more step, with lists of its own. -/
theorem Hp.svPush (h : Hp w0 M (Res.sv G [s] [x] :: Res.sv F cl xs :: L) w) : Hp w0 M (Res.sv (fun k => F k ∨ G k) (cl ++ [s]) (xs ++ [x]) :: L) w := by
  have hap := h.apart
  rw [List.pairwise_cons, List.pairwise_cons] at hap
  obtain ⟨h1, h2, h3⟩ := hap
  have hb : (Res.sv G [s] [x]).holds w := h.holds _ (by simp)
  have hv : (Res.sv F cl xs).holds w := h.holds (Res.sv F cl xs) (by simp)
  obtain ⟨v1, v2⟩ := hv
  have hbs := hb.2 0 (by simp)
  refine ⟨h.fr, ?_, ?_, ?_⟩
  · intro r hr
    rcases List.mem_cons.1 hr with rfl | hr
    · refine ⟨by simp [v1], fun i hi => ?_⟩
      have hi' : i < cl.length + 1 := by simpa using hi
      rw [apS hi', apS (by omega), ← v1]
      by_cases hlt : i < cl.length
      · rw [if_pos hlt, if_pos hlt]
        exact (v2 i hlt).wide fun _ q => .inl q
      · rw [if_neg hlt, if_neg hlt]
        exact hbs.wide fun _ q => .inr q
    · exact h.holds r (by simp [hr])
  · intro r hr k hk
    rcases List.mem_cons.1 hr with rfl | hr
    · rcases hk with hk | hk
      · exact h.range (Res.sv F cl xs) (by simp) k hk
      · exact h.range (Res.sv G [s] [x]) (by simp) k hk
    · exact h.range r (by simp [hr]) k hk
  · rw [List.pairwise_cons]
    refine ⟨fun r hr k hk hk2 => ?_, h3⟩
    rcases hk with hk | hk
    · exact h2 r hr k hk hk2
    · exact h1 r (by simp [hr]) k hk hk2
/-- A step out of its parts: bytes of its own, a list of its own. -/
theorem Hp.svMake {VF : Nat → Prop} {E : TypeId} {R : Res} (s : GStep) (x : StepP) (hk : s.Kind = x.Kind) (ha : s.A = x.A) (hb : s.B = x.B) (hy : s.Key = x.Key)
    (hR : R.foot = VF) (hV : ∀ w, R.holds w → (0 < s.Value.n → VF (adr s.Value.a).block) ∧ s.Value.n = x.Value.size ∧ SlR w s.Value.a s.Value.n ((bytesI x.Value).flatMap u8c))
    (h : Hp w0 M (R :: Res.own E 1 s.L.v s.L.n (x.L.flatMap i64c) :: L) w) :
    Hp w0 M (Res.sv (fun k => R.foot k ∨ s.L.v.ownBlock = some k) [s] [x] :: L) w := by
  have hap := h.apart
  rw [List.pairwise_cons, List.pairwise_cons] at hap
  obtain ⟨h1, h2, h3⟩ := hap
  have hr1 : R.holds w := h.holds _ (by simp)
  have hr2 : (Res.own E 1 s.L.v s.L.n (x.L.flatMap i64c)).holds w := h.holds (Res.own E 1 s.L.v s.L.n (x.L.flatMap i64c)) (by simp)
  obtain ⟨v1, v2, v3⟩ := hV w hr1
  refine ⟨h.fr, ?_, ?_, ?_⟩
  · intro r hr
    rcases List.mem_cons.1 hr with rfl | hr
    · refine ⟨rfl, fun i hi => ?_⟩
      obtain rfl : i = 0 := by simpa using hi
      refine ⟨hk, ha, hb, hy, fun q => .inl (by rw [hR]; exact v1 q), v2, v3, fun q => .inr ?_, ?_, SlR.own hr2⟩
      · rcases hr2.2 with ⟨q1, q2⟩ | ⟨g, cap, cur, q1, _⟩
        · have : s.L.n = 0 := by simp [SlH.v] at q1; exact q1.2.1
          show s.L.v.ownBlock = some _
          have hq : 0 < s.L.n := q
          omega
        · have : s.L.a = some ⟨g, 0, none⟩ := by simp [SlH.v] at q1; exact q1.1
          show s.L.v.ownBlock = some (adr s.L.a).block
          rw [q1, this]; rfl
      · have := own_flat (f := i64c) (sz := 1) (fun _ => rfl) (by decide) hr2
        exact this.symm
    · exact h.holds r (by simp [hr])
  · intro r hr k hk
    rcases List.mem_cons.1 hr with rfl | hr
    · rcases hk with hk | hk
      · exact h.range R (by simp) k hk
      · exact h.range (Res.own E 1 s.L.v s.L.n (x.L.flatMap i64c)) (by simp) k hk
    · exact h.range r (by simp [hr]) k hk
  · rw [List.pairwise_cons]
    refine ⟨fun r hr k hk hk2 => ?_, h3⟩
    rcases hk with hk | hk
    · exact h1 r (by simp [hr]) k hk hk2
    · exact h2 r hr k hk hk2
/-- Without a value. -/
theorem Hp.svMake0 {E : TypeId} (s : GStep) (x : StepP) (hk : s.Kind = x.Kind) (ha : s.A = x.A) (hb : s.B = x.B) (hy : s.Key = x.Key) (hv : s.Value = ⟨none, 0, 0⟩) (hx : x.Value = ⟨#[]⟩)
    (h : Hp w0 M (Res.own E 1 s.L.v s.L.n (x.L.flatMap i64c) :: L) w) : Hp w0 M (Res.sv (fun k => False ∨ s.L.v.ownBlock = some k) [s] [x] :: L) w :=
  Hp.svMake (VF := fun _ => False) (R := Res.sv (fun _ => False) [] []) s x hk ha hb hy rfl (fun w _ => ⟨fun q => by rw [hv] at q; exact absurd q (by decide), by rw [hv, hx]; rfl, by rw [hv, hx]; exact slr_nil0 w⟩) h.svNil
end
theorem StR.of {w : World} {s : GStep} {x : StepP} (hk : s.Kind = x.Kind) (ha : s.A = x.A) (hb : s.B = x.B) (hy : s.Key = x.Key) (hv : s.Value.n = x.Value.size ∧ SlR w s.Value.a s.Value.n ((bytesI x.Value).flatMap u8c)) (hn : s.L.n = x.L.length) (hl : SlR w s.L.a s.L.n (x.L.flatMap i64c)) : StR w Tr s x :=
  ⟨hk, ha, hb, hy, fun _ => trivial, hv.1, hv.2, fun _ => trivial, hn, hl⟩
/-- A step with a value of its own. -/
theorem Hp.svMakeO {w w0 : World} {M : Nat → Prop} {L : List Res} {E U : TypeId} (s : GStep) (x : StepP) (hk : s.Kind = x.Kind) (ha : s.A = x.A) (hb : s.B = x.B) (hy : s.Key = x.Key)
    (h : Hp w0 M (Res.own U 1 s.Value.v s.Value.n ((bytesI x.Value).flatMap u8c) :: Res.own E 1 s.L.v s.L.n (x.L.flatMap i64c) :: L) w) : Hp w0 M (Res.sv (fun k => s.Value.v.ownBlock = some k ∨ s.L.v.ownBlock = some k) [s] [x] :: L) w :=
  Hp.svMake (VF := fun k => s.Value.v.ownBlock = some k) (R := Res.own U 1 s.Value.v s.Value.n ((bytesI x.Value).flatMap u8c)) s x hk ha hb hy rfl (fun w hR => ⟨fun q => by
    rcases hR.2 with ⟨q1, q2⟩ | ⟨g, cap, cur, q1, _⟩
    · omega
    · have : s.Value.a = some ⟨g, 0, none⟩ := by simp [SlH.v] at q1; exact q1.1
      rw [q1, this]; rfl, by
    have := own_flat (f := u8c) (sz := 1) (fun _ => rfl) (by decide) hR
    rw [← this, bytesI_len], SlR.own hR⟩) h
theorem Hp.ofFr {w w0 : World} (h : Fram Non w0 w) : Hp w0 Non [] w := ⟨h, by simp, by simp, List.Pairwise.nil⟩
/-- A row that has just been laid is a list of one's own. -/
theorem Hp.rowOwnN {w w0 : World} {M : Nat → Prop} {L : List Res} {b E n sz : Nat} {xs : List Value} (h : Hp w0 M (Res.row b xs E :: L) w) (hn : xs.length = n * sz) (hm : n ≤ maxLen) : Hp w0 M (Res.own E sz (.slice (some ⟨b, 0, none⟩) n n) n xs :: L) w := by
  refine h.turn0 _ ?_ ?_
  · intro hr
    exact ⟨hn, .inr ⟨b, n, xs.toArray, rfl, Nat.zero_le _, hr, Nat.le_refl _, hm, by simp [hn], by rw [← hn]; simp⟩⟩
  · intro k hk
    have : some b = some k := hk
    exact (Option.some.inj this).symm
end Go.Proofs.YtbpedjefoajegaaDoor.K
namespace Go.Proofs.YtbpedjefoajegaaDoor.K
open Go Go.RowKit
set_option linter.unusedVariables false
def Free (m : Nat × Nat) (n : Nat) : Prop := m = (0, 0) ∨ n ≤ m.1
theorem Free.fz {w : World} {g j : Nat} {cur : Array Value} {t : TypeId} {m : Nat × Nat} (hm : Free m cur.size) (hg : w.heap[g]? = some (.cells cur t m)) (hj : j < cur.size) : w.frozen? ⟨g, j, none⟩ = false := by
  rcases hm with rfl | hm
  · simp [World.frozen?, hg]
  · obtain ⟨lo, hi⟩ := m
    have h2 : cur.size ≤ lo := hm
    have h3 : ¬ lo ≤ j := by omega
    simp [World.frozen?, hg, h3]
theorem run_storeCells_m {P : Program} (g : Nat) (t : TypeId) (m : Nat × Nat) (o : Nat) : ∀ (vs : List Value) (i : Nat) (cur : List Value) (w : World), w.heap[g]? = some (.cells cur.toArray t m) → Free m cur.length → o + i + vs.length ≤ cur.length → (∀ v ∈ vs, v.oneCell' = true) →
    (storeCells ⟨g, o, none⟩ vs i).run P w = .ok () (w.setRow g (ow cur (o + i) vs).toArray)
  | [], i, cur, w, hg, hm, hl, _ => by
    have hs : w.setRow g (ow cur (o + i) []).toArray = w := by
      have : ow cur (o + i) [] = cur := by simp [ow]
      rw [this]
      have hlt : g < w.heap.size := (Array.getElem?_eq_some_iff.1 hg).1
      have hv : w.heap[g] = .cells cur.toArray t m := (Array.getElem?_eq_some_iff.1 hg).2
      have hh : (w.setRow g cur.toArray).heap = w.heap := by
        unfold World.setRow
        apply Array.ext
        · simp
        · intro k h1 h2
          simp only [Array.getElem_modify]
          split
          · rename_i hk; subst hk; simp [hv]
          · rfl
      show { w with heap := (w.setRow g cur.toArray).heap } = w
      rw [hh]
    simp only [storeCells, Sem.run_pure, hs]
  | v :: rest, i, cur, w, hg, hm, hl, h1 => by
    have hadd : (⟨g, o, none⟩ : Addr).add i = ⟨g, o + i, none⟩ := add_mk g o i
    have hlt : o + i < cur.length := by simp at hl; omega
    have hcell : w.cell? ⟨g, o + i, none⟩ = some cur[o + i] := by simp [World.cell?, hg, List.getElem?_eq_getElem hlt]
    have hfz : w.frozen? ⟨g, o + i, none⟩ = false := Free.fz (cur := cur.toArray) (by simpa using hm) hg (by simpa using hlt)
    have hrow := setCell_eq_setRow w g (o + i) cur.toArray t m v hg
    have hset : cur.toArray.setIfInBounds (o + i) v = (cur.set (o + i) v).toArray := by simp
    have hnew := setRow_heap w g cur.toArray (cur.set (o + i) v).toArray t m hg
    have ih := run_storeCells_m (P := P) g t m o rest (i + 1) (cur.set (o + i) v) (w.setRow g (cur.set (o + i) v).toArray) hnew (by simpa using hm) (by simp at hl ⊢; omega) (fun u hu => h1 u (by simp [hu]))
    simp only [storeCells, Sem.run_bind, hadd, run_store P w _ v .plain (h1 v (by simp)), hcell, hfz, Bool.false_eq_true, if_false, Result.andThen_ok, hrow, hset, ih, setRow_setRow]
    congr 3
    simp only [ow]
    rw [List.take_set, List.drop_set]
    have e1 : (cur.take (o + (i + 1))).set (o + i) v = cur.take (o + i) ++ [v] := by
      have hlen : (cur.take (o + i)).length = o + i := by rw [List.length_take]; omega
      rw [show o + (i + 1) = (o + i) + 1 from rfl, List.take_succ_eq_append_getElem hlt, List.set_append_right _ _ (by omega), hlen, Nat.sub_self]
      rfl
    have e2 : o + i < o + (i + 1) + rest.length := by omega
    rw [if_pos e2, e1]
    simp [List.length_cons, show o + i + (rest.length + 1) = o + (i + 1) + rest.length from by omega]
def rowsM (w : World) (e : TypeId) (size : Nat) (v : Value) (n : Nat) (xs : List Value) : Prop :=
  xs.length = n * size ∧ ((v = .slice none 0 0 ∧ n = 0) ∨ ∃ g cap cur m, v = .slice (some ⟨g, 0, none⟩) n cap ∧ w.heap[g]? = some (.cells cur e m) ∧ Free m cur.size ∧ n ≤ cap ∧ cap ≤ maxLen ∧ cur.size = cap * size ∧ cur.toList.take (n * size) = xs)
def Res.ow2 (e : TypeId) (size : Nat) (v : Value) (n : Nat) (xs : List Value) : Res :=
  ⟨fun k => v.ownBlock = some k, fun w => rowsM w e size v n xs, by
    rintro w w' h ⟨h1, h2⟩
    refine ⟨h1, ?_⟩
    rcases h2 with h2 | ⟨g, cap, cur, m, hv, hh, r⟩
    · exact .inl h2
    · exact .inr ⟨g, cap, cur, m, hv, by rw [h g (by rw [hv]; rfl)]; exact hh, r⟩⟩
section
variable {w w0 : World} {M : Nat → Prop} {L A B : List Res} {E : TypeId} {sz n c : Nat} {a : Option Addr} {v : Value} {xs : List Value}
theorem ow2_of (h : (Res.own E sz v n xs).holds w) : (Res.ow2 E sz v n xs).holds w := by
  refine ⟨h.1, ?_⟩
  rcases h.2 with h2 | ⟨g, cap, cur, hv, _, hh, r⟩
  · exact .inl h2
  · exact .inr ⟨g, cap, cur, (0, 0), hv, hh, .inl rfl, r⟩
theorem Hp.toOw2 (h : Hp w0 M (A ++ Res.own E sz v n xs :: B) w) : Hp w0 M (A ++ Res.ow2 E sz v n xs :: B) w := h.turn _ ow2_of fun _ hb => hb
theorem Hp.nilOw2 (h : Hp w0 M L w) (E : TypeId) (sz : Nat) : Hp w0 M (Res.ow2 E sz (.slice none 0 0) 0 [] :: L) w := Hp.toOw2 (A := []) (h.nilOwn E sz)
theorem Rd.ow2 (h : (Res.ow2 E sz (.slice a n c) n xs).holds w) : Rd w a xs := by
  intro j u hu
  rcases h.2 with ⟨h0, hn⟩ | ⟨g, cap, cur, m, hv, hh, _, _, _, _, htk⟩
  · have : xs = [] := List.eq_nil_of_length_eq_zero (by have := h.1; rw [hn] at this; simpa using this)
    subst this; simp at hu
  · simp at hv
    obtain ⟨rfl, _⟩ := hv
    rw [← htk, List.getElem?_take] at hu
    split at hu
    · show w.cell? ((⟨g, 0, none⟩ : Addr).add j) = some u
      rw [add_mk, Nat.zero_add]
      simpa [World.cell?, hh] using hu
    · simp at hu
theorem SlR.ow2 (h : (Res.ow2 E sz (.slice a n c) n xs).holds w) : SlR w a n xs := by
  refine ⟨Rd.ow2 h, fun h0 => ?_⟩
  rcases h.2 with ⟨_, hn⟩ | ⟨g, cap, cur, m, hv, _⟩
  · omega
  · simp at hv; simp [hv.1]
theorem ow2_flat {α : Type} {f : α → List Value} {l : List α} (hf : ∀ x, (f x).length = sz) (hs : 0 < sz) (h : (Res.ow2 E sz v n (l.flatMap f)).holds w) : l.length = n := by
  have := h.1
  rw [flat_len hf] at this
  exact Nat.eq_of_mul_eq_mul_right hs this
theorem ow2_slice (h : (Res.ow2 E sz v n xs).holds w) : ∃ a c, v = .slice a n c := by
  rcases h.2 with ⟨rfl, rfl⟩ | ⟨g, cap, cur, m, rfl, _⟩
  · exact ⟨none, 0, rfl⟩
  · exact ⟨_, _, rfl⟩
theorem ow2_max (h : (Res.ow2 E sz (.slice a n c) n xs).holds w) : n ≤ 9223372036854775807 := by
  rcases h.2 with ⟨_, hn⟩ | ⟨g, cap, cur, m, hv, _, _, h1, h2, _⟩
  · omega
  · simp only [maxLen] at h2; omega
theorem ow2_adr (h : (Res.ow2 E sz (.slice a n c) n xs).holds w) (h0 : 0 < n) : (Value.slice a n c).ownBlock = some (adr a).block := by
  rcases h.2 with ⟨q1, q2⟩ | ⟨g, cap, cur, m, q1, _⟩
  · omega
  · have : a = some ⟨g, 0, none⟩ := by simp at q1; exact q1.1
    rw [q1, this]; rfl
end
theorem append_m {P : Program} (w : World) (t ty e : TypeId) (i : TypeInfo) (z : Value) (size bytes : Nat) (ht : P.underlying t = some (.slice e)) (hi : P.info? e = some i) (hz : i.zero = some z)
    (hsize : i.size = size) (hby : i.bytes = bytes) (hzs : z.cells.size = size) (hsz : 0 < size)
    (v : Value) (n : Nat) (xs : List Value) (hown : rowsM w e size v n xs)
    (a : Addr) (m c : Nat) (news : List Value) (hl : news.length = m * size) (hnews : ∀ j u, news[j]? = some u → w.cell? (a.add j) = some u) (h1 : ∀ u ∈ news, u.oneCell' = true)
    (h63 : n + m ≤ maxLen) (hbytes : (n + m) * bytes ≤ 140737488355328) :
    ∃ v' w', (Builtin.append_ #[t, t] ty #[v, .slice (some a) m c]).run P w = .ok v' w' ∧ rowsM w' e size v' (n + m) (xs ++ news) ∧ w.grownBy w' v.ownBlock ∧ (v'.ownBlock = v.ownBlock ∨ v'.ownBlock = some w.heap.size) := by
  subst hsize
  subst hby
  have hsmall : n + m ≤ 9223372036854775807 := by simp only [maxLen] at h63; omega
  have hlen : (xs ++ news).length = (n + m) * i.size := by rw [List.length_append, hown.1, hl, Nat.add_mul]
  have grown : ∀ (old : Nat), old < n + m → ∀ (row : Option Nat),
      rowsM (w.drew.alloc (.cells (xs.toArray ++ news.toArray ++ Builtin.zeroCells z.cells (grownCap w (n + m) old e - (n + m))) e)) e i.size
        (.slice (some ⟨w.heap.size, 0, none⟩) (n + m) (grownCap w (n + m) old e)) (n + m) (xs ++ news) ∧
      w.grownBy (w.drew.alloc (.cells (xs.toArray ++ news.toArray ++ Builtin.zeroCells z.cells (grownCap w (n + m) old e - (n + m))) e)) row := by
    intro old ho row
    have hge := grownCap_ge w (n + m) old e
    have hcm : grownCap w (n + m) old e ≤ maxLen := grownCap_le_maxLen w (n + m) old e h63
    refine ⟨⟨hlen, .inr ⟨w.heap.size, _, _, (0, 0), rfl, heap_alloc_new w.drew _, .inl rfl, hge, hcm, ?_, ?_⟩⟩, ⟨rfl, rfl, rfl, by simp, fun k hk _ => heap_alloc_old w.drew _ hk⟩⟩
    · simp only [Array.size_append, List.size_toArray, size_zeroCells, hzs, hown.1, hl, ← Nat.add_mul]
      congr 1
      omega
    · simp only [Array.toList_append, List.append_assoc]
      rw [← List.append_assoc, ← hlen]
      exact List.take_left
  rcases hown.2 with ⟨rfl, rfl⟩ | ⟨g, cap, cur, mk, rfl, hg, hfr, hnc, hcm, hcs, htake⟩
  · have hx : xs = [] := List.eq_nil_of_length_eq_zero (by simpa using hown.1)
    subst hx
    by_cases hm : m = 0
    · subst hm
      have hn : news = [] := List.eq_nil_of_length_eq_zero (by simpa using hl)
      subst hn
      refine ⟨.slice none 0 0, w, ?_, ⟨by simp, .inl ⟨rfl, rfl⟩⟩, ⟨rfl, rfl, rfl, Nat.le_refl _, fun _ _ _ => rfl⟩, Or.inl rfl⟩
      simp [Builtin.append_, run_underlying ht, sizeOf, typeInfo, hi, Builtin.lenOf, Builtin.firstCells, loadCells, loadCellsFrom]
    · have hr := run_append_nil (P := P) w t ty e i z ht hi hz a m c news hl hnews (by omega) (by omega) (by have hb := hbytes; simp only [Nat.zero_add] at hb; omega)
      have hgr := grown 0 (by omega) (Value.ownBlock (.slice none 0 0))
      simp only [Nat.zero_add, List.nil_append, Array.empty_append] at hgr ⊢
      exact ⟨_, _, hr, hgr.1, hgr.2, Or.inr rfl⟩
  · by_cases hroom : n + m ≤ cap
    · have hfit : n * i.size + news.length ≤ cur.size := by rw [hl, hcs, ← Nat.add_mul]; exact Nat.mul_le_mul_right _ hroom
      have hf := run_firstCells_some (P := P) w i.size m a m c news hl hnews
      have hst := run_storeCells_m (P := P) g e mk (n * i.size) news 0 cur.toList w (by simpa using hg) (by simpa using hfr) (by simpa using hfit) h1
      simp only [Nat.add_zero] at hst
      refine ⟨.slice (some ⟨g, 0, none⟩) (n + m) cap, w.setRow g (ow cur.toList (n * i.size) news).toArray, ?_, ⟨hlen, .inr ⟨g, cap, _, mk, rfl, setRow_heap w g cur _ e _ hg, ?_, hroom, hcm, ?_, ?_⟩⟩, ⟨rfl, rfl, rfl, by simp, fun k _ hk => setRow_other w g k _ (fun e => hk (by simp [Value.ownBlock, e]))⟩, Or.inl rfl⟩
      · simp [Builtin.append_, run_underlying ht, sizeOf, typeInfo, hi, Builtin.lenOf, hroom, hf, Addr.add_lit, hst]
      · simpa [ow_len (c := cur.toList) (o := n * i.size) (vs := news) (by simpa using hfit)] using hfr
      · simpa [ow_len (c := cur.toList) (o := n * i.size) (vs := news) (by simpa using hfit)] using hcs
      · simp only [ow]
        rw [htake, ← hlen]
        exact List.take_left
    · have holds : ∀ j u, xs[j]? = some u → w.cell? ((⟨g, 0, none⟩ : Addr).add j) = some u := fun j u hu => Rd.ow2 (w := w) (E := e) (sz := i.size) (a := some ⟨g, 0, none⟩) (n := n) (c := cap) (xs := xs) hown j u hu
      have hr := run_append_grow (P := P) w t ty e i z ht hi hz ⟨g, 0, none⟩ n cap xs hown.1 holds a m c news hl hnews (by omega) (by omega) (growslice_fits (by omega) hbytes)
      have hgr := grown cap (by omega) (Value.ownBlock (.slice (some ⟨g, 0, none⟩) n cap))
      exact ⟨_, _, hr, hgr.1, hgr.2, Or.inr rfl⟩
section
variable {P : Program} {N : Nat} {ops : Array Oper} {Q : Post} {next : Env → World → Prop} {e : Env} {w w0 : World} {M : Nat → Prop} {L A B : List Res} {ty : TypeId} {pos : String} {af : Array Edge} {d : Nat}
theorem opStep.storeOw2 {T E : TypeId} {x y : Operand} {sz n c : Nat} {a : Option Addr} {xs : List Value} (p : Nat) (hp : Hp w0 M (A ++ Res.ow2 E sz (.slice a n c) n xs :: B) w) (hx : ev e x = .pointer (some ((adr a).add p))) (vs : List Value)
    (hc : ((ev e y).cells.toList, (P.info? T).map (·.size), vs.all (·.oneCell')) = (vs, some vs.length, true)) (h0 : 0 < vs.length) (hb : p + vs.length ≤ n * sz)
    (h : ∀ w', Hp w0 M (A ++ Res.ow2 E sz (.slice a n c) n (ow xs p vs) :: B) w' → next e w') :
    opStep P N ops Q ⟨none, .store T x y, ty, pos, af, none⟩ next e w := by
  simp only [Prod.mk.injEq] at hc
  obtain ⟨hv, hsz, h1⟩ := hc
  have hown : (Res.ow2 E sz (.slice a n c) n xs).holds w := hp.get
  obtain ⟨hl, hh | ⟨g, cap, cur, m, hs, hh, hfr, hn, hcap, hcs, hxs⟩⟩ := hown
  · obtain ⟨_, rfl⟩ := hh
    omega
  · simp only [Value.slice.injEq] at hs
    obtain ⟨rfl, _, rfl⟩ := hs
    have had : (adr (some (⟨g, 0, none⟩ : Addr))).add p = ⟨g, p, none⟩ := by rw [show adr (some (⟨g, 0, none⟩ : Addr)) = ⟨g, 0, none⟩ from rfl, add_mk, Nat.zero_add]
    rw [had] at hx
    cases hi : P.info? T with
    | none => simp [hi] at hsz
    | some i =>
      simp [hi] at hsz
      have hlt : g < w.heap.size := (Array.getElem?_eq_some_iff.1 hh).1
      have hle : n * sz ≤ c * sz := Nat.mul_le_mul_right _ hn
      have hcl : cur.toList.length = c * sz := by simpa using hcs
      have hrun := run_storeCells_m (P := P) g E m p vs 0 cur.toList w (by simpa using hh) (by simpa using hfr) (by omega) (fun v hv => List.all_eq_true.1 h1 v hv)
      rw [Nat.add_zero] at hrun
      refine opStep.skip (w' := w.setRow g (ow cur.toList p vs).toArray) rfl ?_ (h _ ?_)
      · have hs2 : (ev e y).cells.size = i.size := by rw [hsz, ← hv]; simp
        simp [execOp, Instr.storeAt, Instr.sureAddr, hx, storeVar, sizeOf, typeInfo, hi, hs2, hv, hrun]
      · refine hp.mod ((setRow_fram w g _).mono fun k _ hk => by subst hk; rfl) (Res.ow2 E sz (.slice (some ⟨g, 0, none⟩) n c) n (ow xs p vs)) ⟨?_, .inr ⟨g, c, (ow cur.toList p vs).toArray, m, rfl, setRow_heap w g _ _ E _ hh, ?_, hn, hcap, ?_, ?_⟩⟩ fun k hk => ⟨?_, .inl hk⟩
        · rw [ow_len (by omega)]; exact hl
        · simpa [ow_len (c := cur.toList) (o := p) (vs := vs) (by omega)] using hfr
        · simp only [List.size_toArray]; rw [ow_len (by omega)]; exact hcl
        · simp only; rw [ow_take hb (by omega), hxs]
        · have : k = g := by have hk' : some g = some k := hk; simpa using hk'.symm
          subst this; simpa using hlt
theorem opStep.appendM {T E ty2 : TypeId} {s x : Operand} {sz n m c : Nat} {v : Value} {xs news : List Value} {ad : Addr} (hp : Hp w0 M (A ++ Res.ow2 E sz v n xs :: B) w)
    (bytes : Nat) (hT : appInfo P T = some (E, sz, bytes))
    (hs : ev e s = v) (hx : ev e x = .slice (some ad) m c) (hl : news.length = m * sz) (hrd : Rd w (some ad) news) (h1 : ∀ u ∈ news, u.oneCell' = true) (hsz : 0 < sz)
    (hb : (n + m) * bytes ≤ 140737488355328) (h63 : n + m ≤ 9223372036854775807)
    (h : ∀ a' c' w', Hp w0 M (A ++ Res.ow2 E sz (.slice a' (n + m) c') (n + m) (xs ++ news) :: B) w' → next (upd e d (.slice a' (n + m) c')) w') :
    opStep P N ops Q ⟨some d, .call ⟨.builtin .append, #[s, x], #[T, T]⟩, ty2, pos, af, none⟩ next e w := by
  obtain ⟨i, z, hu, hi, hz, rfl, rfl, hzs⟩ := appInfo_spec hT
  obtain ⟨v', w', hrun, hown, hgrow, hat⟩ := append_m (P := P) w T ty2 E i z i.size i.bytes hu hi hz rfl rfl hzs hsz v n xs hp.get ad m c news hl hrd h1 (by simp only [maxLen]; omega) hb
  have hlt : ∀ b, v'.ownBlock = some b → b < w'.heap.size := by
    intro b hb
    rcases hown.2 with ⟨rfl, _⟩ | ⟨g, cap, cur, mk, rfl, hg, _⟩
    · simp [Value.ownBlock] at hb
    · simp [Value.ownBlock] at hb
      subst hb
      exact (Array.getElem?_eq_some_iff.1 hg).1
  have hp' : Hp w0 M (A ++ Res.ow2 E i.size v' (n + m) (xs ++ news) :: B) w' := by
    refine hp.mod (r' := Res.ow2 E i.size v' (n + m) (xs ++ news)) (Fram.of_grown hgrow) hown fun b hb => ?_
    have hb' : v'.ownBlock = some b := hb
    refine ⟨hlt b hb', ?_⟩
    rcases hat with h2 | h2
    · left
      show Value.ownBlock _ = some b
      rw [← h2]; exact hb'
    · right
      rw [h2] at hb'
      have : w.heap.size = b := by simpa using hb'
      omega
  obtain ⟨a', c', rfl⟩ := ow2_slice hp'.get
  refine opStep.val (v := .slice a' (n + m) c') (w' := w') rfl ?_ (h a' c' w' hp')
  simp [execOp, resolve, invoke, builtin, hs, hx, hrun]
def convSBE (P : Program) (src dst : TypeId) : Option TypeId := match P.underlying src, P.underlying dst with
  | some .string, some (.slice e) => (match P.underlying e with | some (.int .u8) => some e | _ => none)
  | _, _ => none
/-- A text's bytes as a list of one's own, with its room. -/
theorem opStep.strBytesM {src dst E : TypeId} {x : Operand} {s : ByteArray} (hp : Hp w0 M L w) (hT : convSBE P src dst = some E) (hx : ev e x = .string s) (hsz : s.size ≤ 9223372036854775807)
    (h : ∀ b c w', Hp w0 M (Res.ow2 E 1 (.slice (some ⟨b, 0, none⟩) s.size c) s.size ((bytesI s).flatMap u8c) :: L) w' → next (upd e d (.slice (some ⟨b, 0, none⟩) s.size c)) w') :
    opStep P N ops Q ⟨some d, .convert src dst x, ty, pos, af, none⟩ next e w := by
  unfold convSBE at hT
  split at hT
  · rename_i E' hs hd
    split at hT
    · rename_i he
      simp only [Option.some.injEq] at hT
      subst hT
      have hrun := Go.Lib.run_convert_string_bytes w src dst E' s hs hd he
      have hge := grownCap_ge w s.size 0 E'
      have hcm : grownCap w s.size 0 E' ≤ maxLen := grownCap_le_maxLen w s.size 0 E' (by simp only [maxLen]; omega)
      refine opStep.val (v := .slice (some ⟨w.heap.size, 0, none⟩) s.size (grownCap w s.size 0 E')) (w' := Go.Lib.bytesWorld w E' s) rfl ?_ (h w.heap.size _ _ ?_)
      · simp [execOp, hx, hrun]
      · refine hp.new (w' := Go.Lib.bytesWorld w E' s) ⟨rfl, rfl, rfl, by rw [Go.Lib.bytesWorld_size]; omega, fun k hk _ => Go.Lib.bytesWorld_at_old w E' s k hk⟩ _ ⟨?_, .inr ⟨w.heap.size, _, _, _, rfl, Go.Lib.bytesWorld_at_new w E' s, .inr (Nat.le_refl _), hge, hcm, ?_, ?_⟩⟩ fun b hb => ?_
        · rw [u8c_map]; simp [bytesI]
        · simp only [Go.Lib.bytesCells, Array.size_append, Array.size_map, Array.size_replicate]
          rw [show s.data.size = s.size from rfl]
          omega
        · rw [u8c_map, Nat.mul_one]
          simp only [Go.Lib.bytesCells, Array.toList_append, Array.toList_map, bytesI, List.map_map]
          rw [List.take_append_of_le_length (by simp), List.take_of_length_le (by simp)]
          rfl
        · have : w.heap.size = b := by have hb' : some w.heap.size = some b := hb; simpa using hb'
          subst this
          rw [Go.Lib.bytesWorld_size]; omega
    · cases hT
  · cases hT
end
end Go.Proofs.YtbpedjefoajegaaDoor.K
namespace Go.Proofs.YtbpedjefoajegaaDoor.K
open Go Go.RowKit
set_option linter.unusedVariables false
/-- Two lists of one's own: bytes and numbers. -/
structure AI where
  v : SlH
  vx : List Int
  l : SlH
  lx : List Int
instance : Inhabited AI := ⟨⟨⟨none, 0, 0⟩, [], ⟨none, 0, 0⟩, []⟩⟩
abbrev Res.av (p : AI) : Res := Res.ow2 tyB 1 p.v.v p.v.n (p.vx.flatMap u8c)
abbrev Res.al (p : AI) : Res := Res.ow2 3 1 p.l.v p.l.n (p.lx.flatMap i64c)
def AI.two (p : AI) : List Res := [Res.av p, Res.al p]
def Res.als (ps : List AI) : Res := Res.all (ps.flatMap AI.two)
section
variable {w w0 : World} {M : Nat → Prop} {L : List Res} {ps : List AI} {p : AI} {i : Nat}
theorem Hp.alsPerm {qs : List AI} (hp : ps.Perm qs) (h : Hp w0 M (Res.als ps :: L) w) : Hp w0 M (Res.als qs :: L) w := Hp.allPerm (hp.flatMap_right AI.two) h
theorem Hp.swap {r s : Res} (h : Hp w0 M (r :: s :: L) w) : Hp w0 M (s :: r :: L) w := h.pull1
theorem Hp.alsHead (h : Hp w0 M (Res.als (p :: ps) :: L) w) : Hp w0 M (Res.av p :: Res.al p :: Res.als ps :: L) w := by
  have h' : Hp w0 M (Res.all (Res.av p :: Res.al p :: ps.flatMap AI.two) :: L) w := h
  have h1 := h'.allPop
  have h2 := h1.swap.allPop
  exact h2.pull2
theorem Hp.alsCons (h : Hp w0 M (Res.av p :: Res.al p :: Res.als ps :: L) w) : Hp w0 M (Res.als (p :: ps) :: L) w := by
  have h1 : Hp w0 M (Res.al p :: Res.all (ps.flatMap AI.two) :: Res.av p :: L) w := h.pull2.pull2
  have h2 : Hp w0 M (Res.av p :: Res.all (Res.al p :: ps.flatMap AI.two) :: L) w := h1.allCons.swap
  exact h2.allCons
theorem Hp.alsPop (h : Hp w0 M (Res.als ps :: L) w) (hi : i < ps.length) (hp : ps[i]! = p) : Hp w0 M (Res.av p :: Res.al p :: Res.als (ps.eraseIdx i) :: L) w :=
  Hp.alsHead (hp ▸ h.alsPerm (erase_perm hi))
theorem Hp.alsPut (h : Hp w0 M (Res.av p :: Res.al p :: Res.als (ps.eraseIdx i) :: L) w) (hi : i < ps.length) : Hp w0 M (Res.als (ps.set i p) :: L) w :=
  h.alsCons.alsPerm (set_perm hi)
end
def aiOf (cl : List GStep) (xs : List StepP) : List AI := (cl.zip xs).map fun p => ⟨p.1.Value, bytesI p.2.Value, p.1.L, p.2.L⟩
def Res.so (F : Nat → Prop) (cl : List GStep) (xs : List StepP) : Res :=
  ⟨F, fun w => StL w F cl xs ∧ (Res.als (aiOf cl xs)).holds w ∧ ∀ k, (Res.als (aiOf cl xs)).foot k → F k, fun h hw => ⟨(Res.sv F cl xs).stable h hw.1, (Res.als (aiOf cl xs)).stable (fun b hb => h b (hw.2.2 b hb)) hw.2.1, hw.2.2⟩⟩
section
variable {w w0 : World} {M : Nat → Prop} {L : List Res} {F G : Nat → Prop} {cl : List GStep} {xs : List StepP} {s : GStep} {x : StepP}
theorem Hp.soSv (h : Hp w0 M (Res.so F cl xs :: L) w) : Hp w0 M (Res.sv F cl xs :: L) w := h.turn0 (Res.sv F cl xs) (fun q => q.1) fun _ q => q
theorem Hp.soAls (h : Hp w0 M (Res.so F cl xs :: L) w) : Hp w0 M (Res.als (aiOf cl xs) :: L) w := h.turn0 (Res.als (aiOf cl xs)) (fun q => q.2.1) (h.holds (Res.so F cl xs) (by simp)).2.2
theorem Hp.soNil (h : Hp w0 M L w) : Hp w0 M (Res.so (fun _ => False) [] [] :: L) w :=
  h.new (Fram.refl _ _) _ ⟨⟨rfl, fun i hi => by simp at hi⟩, ⟨fun r hr => by simp [aiOf] at hr, by simp [aiOf]⟩, fun k hk => by obtain ⟨r, hr, _⟩ := hk; simp [aiOf] at hr⟩ fun b hb => by cases hb
theorem aiOf_snoc (h : cl.length = xs.length) : aiOf (cl ++ [s]) (xs ++ [x]) = aiOf cl xs ++ aiOf [s] [x] := by
  unfold aiOf
  rw [List.zip_append h, List.map_append]
theorem Hp.soPush (h : Hp w0 M (Res.so G [s] [x] :: Res.so F cl xs :: L) w) : Hp w0 M (Res.so (fun k => F k ∨ G k) (cl ++ [s]) (xs ++ [x]) :: L) w := by
  have hb : (Res.so G [s] [x]).holds w := h.holds _ (by simp)
  have hv : (Res.so F cl xs).holds w := h.holds (Res.so F cl xs) (by simp)
  have hap := h.apart
  rw [List.pairwise_cons] at hap
  have h0 : Hp w0 M (Res.sv G [s] [x] :: Res.sv F cl xs :: L) w := (h.soSv.pull1.soSv).pull1
  have h1 := h0.svPush
  refine ⟨h1.fr, ?_, ?_, ?_⟩
  · intro r hr
    rcases List.mem_cons.1 hr with rfl | hr
    · refine ⟨h1.holds (Res.sv (fun k => F k ∨ G k) (cl ++ [s]) (xs ++ [x])) (by simp), ?_, ?_⟩
      · rw [aiOf_snoc hv.1.1]
        refine ⟨fun r hr => ?_, ?_⟩
        · rw [List.flatMap_append] at hr
          rcases List.mem_append.1 hr with hr | hr
          · exact hv.2.1.1 r hr
          · exact hb.2.1.1 r hr
        · rw [List.flatMap_append, List.pairwise_append]
          refine ⟨hv.2.1.2, hb.2.1.2, fun r hr t ht k hk hk2 => ?_⟩
          exact hap.1 (Res.so F cl xs) (by simp) k (hb.2.2 k ⟨t, ht, hk2⟩) (hv.2.2 k ⟨r, hr, hk⟩)
      · rw [aiOf_snoc hv.1.1]
        rintro k ⟨r, hr, hk⟩
        rw [List.flatMap_append] at hr
        rcases List.mem_append.1 hr with hr | hr
        · exact .inl (hv.2.2 k ⟨r, hr, hk⟩)
        · exact .inr (hb.2.2 k ⟨r, hr, hk⟩)
    · exact h1.holds r (by simp [hr])
  · intro r hr k hk
    rcases List.mem_cons.1 hr with rfl | hr
    · exact h1.range (Res.sv (fun k => F k ∨ G k) (cl ++ [s]) (xs ++ [x])) (by simp) k hk
    · exact h1.range r (by simp [hr]) k hk
  · have := h1.apart
    rw [List.pairwise_cons] at this ⊢
    exact this
/-- A step out of two lists of one's own. -/
theorem Hp.soMake (s : GStep) (x : StepP) (hk : s.Kind = x.Kind) (ha : s.A = x.A) (hb : s.B = x.B) (hy : s.Key = x.Key)
    (h : Hp w0 M (Res.ow2 tyB 1 s.Value.v s.Value.n ((bytesI x.Value).flatMap u8c) :: Res.ow2 3 1 s.L.v s.L.n (x.L.flatMap i64c) :: L) w) :
    Hp w0 M (Res.so (fun k => s.Value.v.ownBlock = some k ∨ s.L.v.ownBlock = some k) [s] [x] :: L) w := by
  have hap := h.apart
  rw [List.pairwise_cons, List.pairwise_cons] at hap
  obtain ⟨h1, h2, h3⟩ := hap
  have hr1 : (Res.ow2 tyB 1 s.Value.v s.Value.n ((bytesI x.Value).flatMap u8c)).holds w := h.holds _ (by simp)
  have hr2 : (Res.ow2 3 1 s.L.v s.L.n (x.L.flatMap i64c)).holds w := h.holds (Res.ow2 3 1 s.L.v s.L.n (x.L.flatMap i64c)) (by simp)
  have e1 := ow2_flat (f := u8c) (fun _ => rfl) (by decide) hr1
  have e2 := ow2_flat (f := i64c) (fun _ => rfl) (by decide) hr2
  rw [bytesI_len] at e1
  refine ⟨h.fr, ?_, ?_, ?_⟩
  · intro r hr
    rcases List.mem_cons.1 hr with rfl | hr
    · refine ⟨⟨rfl, fun i hi => ?_⟩, ⟨?_, ?_⟩, ?_⟩
      · obtain rfl : i = 0 := by simpa using hi
        exact ⟨hk, ha, hb, hy, fun q => .inl (ow2_adr hr1 q), e1.symm, SlR.ow2 hr1, fun q => .inr (ow2_adr hr2 q), e2.symm, SlR.ow2 hr2⟩
      · intro r hr
        simp [aiOf, AI.two] at hr
        rcases hr with rfl | rfl
        · exact hr1
        · exact hr2
      · simp only [aiOf, AI.two, List.zip_cons_cons, List.zip_nil_right, List.map_cons, List.map_nil, List.flatMap_cons, List.flatMap_nil, List.append_nil, List.pairwise_cons, List.mem_singleton, List.not_mem_nil, false_implies, implies_true, List.Pairwise.nil, and_true]
        rintro r rfl k hk hk2
        exact h1 _ (by simp) k hk hk2
      · rintro k ⟨r, hr, hk⟩
        simp [aiOf, AI.two] at hr
        rcases hr with rfl | rfl
        · exact .inl hk
        · exact .inr hk
    · exact h.holds r (by simp [hr])
  · intro r hr k hk
    rcases List.mem_cons.1 hr with rfl | hr
    · rcases hk with hk | hk
      · exact h.range (Res.ow2 tyB 1 s.Value.v s.Value.n ((bytesI x.Value).flatMap u8c)) (by simp) k hk
      · exact h.range (Res.ow2 3 1 s.L.v s.L.n (x.L.flatMap i64c)) (by simp) k hk
    · exact h.range r (by simp [hr]) k hk
  · rw [List.pairwise_cons]
    refine ⟨fun r hr k hk hk2 => ?_, h3⟩
    rcases hk with hk | hk
    · exact h1 r (by simp [hr]) k hk hk2
    · exact h2 r hr k hk hk2
theorem Hp.soMake0 (s : GStep) (x : StepP) (hk : s.Kind = x.Kind) (ha : s.A = x.A) (hb : s.B = x.B) (hy : s.Key = x.Key) (hv : s.Value = ⟨none, 0, 0⟩) (hx : x.Value = ⟨#[]⟩)
    (h : Hp w0 M (Res.own 3 1 s.L.v s.L.n (x.L.flatMap i64c) :: L) w) : Hp w0 M (Res.so (fun k => s.Value.v.ownBlock = some k ∨ s.L.v.ownBlock = some k) [s] [x] :: L) w := by
  refine Hp.soMake s x hk ha hb hy ?_
  have h2 := (Hp.toOw2 (A := []) h).nilOw2 tyB 1
  rw [hv, hx]
  exact h2
theorem Hp.soMakeV {b c : Nat} {v : ByteArray} (s : GStep) (x : StepP) (hk : s.Kind = x.Kind) (ha : s.A = x.A) (hb : s.B = x.B) (hy : s.Key = x.Key) (hv : s.Value = ⟨some ⟨b, 0, none⟩, v.size, c⟩) (hx : x.Value = v)
    (h : Hp w0 M (Res.ow2 tyB 1 (.slice (some ⟨b, 0, none⟩) v.size c) v.size ((bytesI v).flatMap u8c) :: Res.own 3 1 s.L.v s.L.n (x.L.flatMap i64c) :: L) w) : Hp w0 M (Res.so (fun k => s.Value.v.ownBlock = some k ∨ s.L.v.ownBlock = some k) [s] [x] :: L) w := by
  refine Hp.soMake s x hk ha hb hy ?_
  have h2 := Hp.toOw2 (A := [Res.ow2 tyB 1 (.slice (some ⟨b, 0, none⟩) v.size c) v.size ((bytesI v).flatMap u8c)]) h
  rw [hv, hx]
  exact h2
end
end Go.Proofs.YtbpedjefoajegaaDoor.K
namespace Go.Proofs.YtbpedjefoajegaaDoor.K
open Go Go.RowKit
set_option linter.unusedVariables false
abbrev bI (i : Nat) : Int := IntKind.u8.wrap (i : Int)
abbrev mI (i : Nat) : Int := (-100) - (i : Int)
instance : Inhabited SlH := ⟨⟨none, 0, 0⟩⟩
structure Al0 (cl : List GStep) (ps : List AI) : Prop where
  len : ps.length = cl.length
  hd : ∀ i, i < cl.length → ps[i]!.v = cl[i]!.Value ∧ ps[i]!.l = cl[i]!.L
def AlD (ps : List AI) (k : Nat) : Prop := ∀ i, i < k → (∀ y ∈ ps[i]!.vx, y = bI i) ∧ (∀ y ∈ ps[i]!.lx, y = mI i)
structure Al2 (cl : List GStep) (hv hl : List SlH) (ps : List AI) (k : Nat) : Prop where
  len : ps.length = cl.length
  nv : hv.length = k
  nl : hl.length = k
  done : ∀ i, i < k → ps[i]!.v = hv[i]! ∧ ps[i]!.l = hl[i]!
  rest : ∀ i, k ≤ i → i < cl.length → ps[i]!.v = cl[i]!.Value ∧ ps[i]!.l = cl[i]!.L
section
variable {cl : List GStep} {ps : List AI} {k n i : Nat} {v l : SlH} {vx lx : List Int} {hv hl : List SlH}
theorem ai_eq {p : AI} (h1 : p.v = v) (h2 : p.l = l) : p = ⟨v, p.vx, l, p.lx⟩ := by obtain ⟨a, b, c, d⟩ := p; simp_all
theorem set_bang {α : Type} [Inhabited α] {l : List α} {x : α} (hk : k < l.length) : (l.set k x)[i]! = if i = k then x else l[i]! := by
  by_cases e : i = k
  · subst e; simp [hk]
  · rw [if_neg e]; simp [List.getElem!_eq_getElem?_getD, List.getElem?_set_ne (Ne.symm e)]
theorem Al0.pop (h : Al0 cl ps) (hk : k < cl.length) : ∃ vx lx, ps[k]! = ⟨cl[k]!.Value, vx, cl[k]!.L, lx⟩ := ⟨_, _, ai_eq (h.hd k hk).1 (h.hd k hk).2⟩
theorem Al0.set (h : Al0 cl ps) (hk : k < cl.length) : Al0 cl (ps.set k ⟨cl[k]!.Value, vx, cl[k]!.L, lx⟩) := by
  refine ⟨by rw [List.length_set]; exact h.len, fun i hi => ?_⟩
  rw [set_bang (by rw [h.len]; exact hk)]
  split
  · rename_i e; subst e; exact ⟨rfl, rfl⟩
  · exact h.hd i hi
theorem AlD.set (h : AlD ps k) (hk : k < ps.length) (h1 : ∀ y ∈ vx, y = bI k) (h2 : ∀ y ∈ lx, y = mI k) : AlD (ps.set k ⟨v, vx, l, lx⟩) (k + 1) := by
  intro i hi
  rw [set_bang hk]
  split
  · rename_i e; subst e; exact ⟨h1, h2⟩
  · exact h i (by omega)
theorem AlD.set2 (h : AlD ps n) (hk : k < ps.length) (h1 : ∀ y ∈ vx, y = bI k) (h2 : ∀ y ∈ lx, y = mI k) : AlD (ps.set k ⟨v, vx, l, lx⟩) n := by
  intro i hi
  rw [set_bang hk]
  split
  · rename_i e; subst e; exact ⟨h1, h2⟩
  · exact h i hi
theorem Al0.two (h : Al0 cl ps) : Al2 cl [] [] ps 0 := ⟨h.len, rfl, rfl, fun i hi => absurd hi (Nat.not_lt_zero _), fun i _ hi => h.hd i hi⟩
theorem Al2.pop (h : Al2 cl hv hl ps k) (hk : k < cl.length) : ∃ vx lx, ps[k]! = ⟨cl[k]!.Value, vx, cl[k]!.L, lx⟩ := ⟨_, _, ai_eq (h.rest k (Nat.le_refl _) hk).1 (h.rest k (Nat.le_refl _) hk).2⟩
theorem Al2.set (h : Al2 cl hv hl ps k) (hk : k < cl.length) : Al2 cl (hv ++ [v]) (hl ++ [l]) (ps.set k ⟨v, vx, l, lx⟩) (k + 1) := by
  have hkp : k < ps.length := by rw [h.len]; exact hk
  refine ⟨by rw [List.length_set]; exact h.len, by simp [h.nv], by simp [h.nl], fun i hi => ?_, fun i hi hi2 => ?_⟩
  · rw [set_bang hkp, apS (by rw [h.nv]; exact hi), apS (by rw [h.nl]; exact hi), h.nv, h.nl]
    by_cases e : i = k
    · subst e; simp
    · rw [if_neg e, if_pos (by omega), if_pos (by omega)]; exact h.done i (by omega)
  · rw [set_bang hkp, if_neg (by omega)]
    exact h.rest i (by omega) hi2
theorem Al2.fin (h : Al2 cl hv hl ps n) (hk : k < n) : ∃ vx lx, ps[k]! = ⟨hv[k]!, vx, hl[k]!, lx⟩ := ⟨_, _, ai_eq (h.done k hk).1 (h.done k hk).2⟩
theorem AlD.get {p : AI} (h : AlD ps n) (hk : k < n) (hp : ps[k]! = p) : (∀ y ∈ p.vx, y = bI k) ∧ (∀ y ∈ p.lx, y = mI k) := hp ▸ h k hk
theorem als_get {w : World} {p : AI} (h : (Res.als ps).holds w) (hi : i < ps.length) (hp : ps[i]! = p) : (Res.av p).holds w ∧ (Res.al p).holds w := by
  have hm : p ∈ ps := by rw [← hp, getElem!_pos ps i hi]; exact List.getElem_mem _
  exact ⟨h.1 _ (List.mem_flatMap.2 ⟨p, hm, by simp [AI.two]⟩), h.1 _ (List.mem_flatMap.2 ⟨p, hm, by simp [AI.two]⟩)⟩
theorem als_slv {w : World} (h : (Res.als ps).holds w) (hi : i < ps.length) (hp : ps[i]! = ⟨v, vx, l, lx⟩) : SlR w v.a v.n (vx.flatMap u8c) := SlR.ow2 (als_get h hi hp).1
theorem als_sll {w : World} (h : (Res.als ps).holds w) (hi : i < ps.length) (hp : ps[i]! = ⟨v, vx, l, lx⟩) : SlR w l.a l.n (lx.flatMap i64c) := SlR.ow2 (als_get h hi hp).2
theorem al_get {l : List Int} {b : Int} (h : ∀ y ∈ l, y = b) (hi : i < l.length) : l[i]! = b := h _ (by rw [getElem!_pos l i hi]; exact List.getElem_mem _)
theorem al_put {l : List Int} {b : Int} {j : Nat} (h : ∀ q, q < j → l[q]! = b) (hj : j < l.length) : ∀ q, q < j + 1 → (l.set j b)[q]! = b := by
  intro q hq
  rw [set_bang hj]
  split
  · rfl
  · exact h q (by omega)
theorem al_all {l : List Int} {b : Int} {j : Nat} (h : ∀ q, q < j → l[q]! = b) (hj : l.length ≤ j) : ∀ y ∈ l, y = b := by
  intro y hy
  obtain ⟨q, hq, rfl⟩ := List.getElem_of_mem hy
  have := h q (by omega)
  rwa [getElem!_pos l q hq] at this
theorem al_app {l : List Int} {b : Int} (h : ∀ y ∈ l, y = b) : ∀ y ∈ l ++ [b], y = b := by
  intro y hy
  rcases List.mem_append.1 hy with q | q
  · exact h y q
  · simpa using q
theorem aiOf_al0 {w : World} {F : Nat → Prop} {xs : List StepP} (h : StL w F cl xs) : Al0 cl (aiOf cl xs) := by
  have hl : (aiOf cl xs).length = cl.length := by simp [aiOf, h.1]
  refine ⟨hl, fun i hi => ?_⟩
  have hx : i < xs.length := by rw [← h.1]; exact hi
  have : (aiOf cl xs)[i]! = ⟨cl[i].Value, bytesI xs[i].Value, cl[i].L, xs[i].L⟩ := by
    rw [getElem!_pos _ i (by omega)]; simp [aiOf]
  rw [this, getElem!_pos cl i hi]
  exact ⟨rfl, rfl⟩
end
section
variable {P : Program} {N : Nat} {ops : Array Oper} {Q : Post} {next : Env → World → Prop} {e : Env} {w w0 : World} {M : Nat → Prop} {ty : TypeId} {pos : String} {af : Array Edge} {d : Nat}
theorem opStep.storeOw20 {T E : TypeId} {x y : Operand} {sz n c : Nat} {a : Option Addr} {xs : List Value} {B : List Res} (p : Nat) (hp : Hp w0 M (Res.ow2 E sz (.slice a n c) n xs :: B) w) (hx : ev e x = .pointer (some ((adr a).add p))) (vs : List Value)
    (hc : ((ev e y).cells.toList, (P.info? T).map (·.size), vs.all (·.oneCell')) = (vs, some vs.length, true)) (h0 : 0 < vs.length) (hb : p + vs.length ≤ n * sz)
    (h : ∀ w', Hp w0 M (Res.ow2 E sz (.slice a n c) n (ow xs p vs) :: B) w' → next e w') :
    opStep P N ops Q ⟨none, .store T x y, ty, pos, af, none⟩ next e w := opStep.storeOw2 (A := []) p hp hx vs hc h0 hb h
theorem opStep.appendM1 {T E ty2 : TypeId} {s x : Operand} {a0 : Res} {B : List Res} {sz n m c : Nat} {v : Value} {xs : List Value} {ad : Addr} (news : List Value) (hp : Hp w0 M (a0 :: Res.ow2 E sz v n xs :: B) w)
    (bytes : Nat) (hT : appInfo P T = some (E, sz, bytes))
    (hs : ev e s = v) (hx : ev e x = .slice (some ad) m c) (hl : news.length = m * sz) (hnews : Rd w (some ad) news) (h1 : ∀ u ∈ news, u.oneCell' = true) (hsz : 0 < sz)
    (hb : (n + m) * bytes ≤ 140737488355328) (h63 : n + m ≤ 9223372036854775807)
    (h : ∀ a c' w', Hp w0 M (a0 :: Res.ow2 E sz (.slice a (n + m) c') (n + m) (xs ++ news) :: B) w' → True → next (upd e d (.slice a (n + m) c')) w') :
    opStep P N ops Q ⟨some d, .call ⟨.builtin .append, #[s, x], #[T, T]⟩, ty2, pos, af, none⟩ next e w :=
  opStep.appendM (A := [a0]) hp bytes hT hs hx hl hnews h1 hsz hb h63 fun a c' w' hp' => h a c' w' hp' trivial
theorem opStep.storeOw21 {T E : TypeId} {x y : Operand} {sz n c : Nat} {a : Option Addr} {xs : List Value} {a0 : Res} {B : List Res} (p : Nat) (hp : Hp w0 M (a0 :: Res.ow2 E sz (.slice a n c) n xs :: B) w) (hx : ev e x = .pointer (some ((adr a).add p))) (vs : List Value)
    (hc : ((ev e y).cells.toList, (P.info? T).map (·.size), vs.all (·.oneCell')) = (vs, some vs.length, true)) (h0 : 0 < vs.length) (hb : p + vs.length ≤ n * sz)
    (h : ∀ w', Hp w0 M (a0 :: Res.ow2 E sz (.slice a n c) n (ow xs p vs) :: B) w' → next e w') :
    opStep P N ops Q ⟨none, .store T x y, ty, pos, af, none⟩ next e w := opStep.storeOw2 (A := [a0]) p hp hx vs hc h0 hb h
theorem opStep.appendM3 {T E ty2 : TypeId} {s x : Operand} {a0 a1 a2 : Res} {B : List Res} {sz n m c : Nat} {v : Value} {xs : List Value} {ad : Addr} (news : List Value) (hp : Hp w0 M (a0 :: a1 :: a2 :: Res.ow2 E sz v n xs :: B) w)
    (bytes : Nat) (hT : appInfo P T = some (E, sz, bytes))
    (hs : ev e s = v) (hx : ev e x = .slice (some ad) m c) (hl : news.length = m * sz) (hnews : Rd w (some ad) news) (h1 : ∀ u ∈ news, u.oneCell' = true) (hsz : 0 < sz)
    (hb : (n + m) * bytes ≤ 140737488355328) (h63 : n + m ≤ 9223372036854775807)
    (h : ∀ a c' w', Hp w0 M (a0 :: a1 :: a2 :: Res.ow2 E sz (.slice a (n + m) c') (n + m) (xs ++ news) :: B) w' → True → next (upd e d (.slice a (n + m) c')) w') :
    opStep P N ops Q ⟨some d, .call ⟨.builtin .append, #[s, x], #[T, T]⟩, ty2, pos, af, none⟩ next e w :=
  opStep.appendM (A := [a0, a1, a2]) hp bytes hT hs hx hl hnews h1 hsz hb h63 fun a c' w' hp' => h a c' w' hp' trivial
theorem opStep.appendM4 {T E ty2 : TypeId} {s x : Operand} {a0 a1 a2 a3 : Res} {B : List Res} {sz n m c : Nat} {v : Value} {xs : List Value} {ad : Addr} (news : List Value) (hp : Hp w0 M (a0 :: a1 :: a2 :: a3 :: Res.ow2 E sz v n xs :: B) w)
    (bytes : Nat) (hT : appInfo P T = some (E, sz, bytes))
    (hs : ev e s = v) (hx : ev e x = .slice (some ad) m c) (hl : news.length = m * sz) (hnews : Rd w (some ad) news) (h1 : ∀ u ∈ news, u.oneCell' = true) (hsz : 0 < sz)
    (hb : (n + m) * bytes ≤ 140737488355328) (h63 : n + m ≤ 9223372036854775807)
    (h : ∀ a c' w', Hp w0 M (a0 :: a1 :: a2 :: a3 :: Res.ow2 E sz (.slice a (n + m) c') (n + m) (xs ++ news) :: B) w' → True → next (upd e d (.slice a (n + m) c')) w') :
    opStep P N ops Q ⟨some d, .call ⟨.builtin .append, #[s, x], #[T, T]⟩, ty2, pos, af, none⟩ next e w :=
  opStep.appendM (A := [a0, a1, a2, a3]) hp bytes hT hs hx hl hnews h1 hsz hb h63 fun a c' w' hp' => h a c' w' hp' trivial
theorem opStep.appendM6 {T E ty2 : TypeId} {s x : Operand} {a0 a1 a2 a3 a4 a5 : Res} {B : List Res} {sz n m c : Nat} {v : Value} {xs : List Value} {ad : Addr} (news : List Value) (hp : Hp w0 M (a0 :: a1 :: a2 :: a3 :: a4 :: a5 :: Res.ow2 E sz v n xs :: B) w)
    (bytes : Nat) (hT : appInfo P T = some (E, sz, bytes))
    (hs : ev e s = v) (hx : ev e x = .slice (some ad) m c) (hl : news.length = m * sz) (hnews : Rd w (some ad) news) (h1 : ∀ u ∈ news, u.oneCell' = true) (hsz : 0 < sz)
    (hb : (n + m) * bytes ≤ 140737488355328) (h63 : n + m ≤ 9223372036854775807)
    (h : ∀ a c' w', Hp w0 M (a0 :: a1 :: a2 :: a3 :: a4 :: a5 :: Res.ow2 E sz (.slice a (n + m) c') (n + m) (xs ++ news) :: B) w' → True → next (upd e d (.slice a (n + m) c')) w') :
    opStep P N ops Q ⟨some d, .call ⟨.builtin .append, #[s, x], #[T, T]⟩, ty2, pos, af, none⟩ next e w :=
  opStep.appendM (A := [a0, a1, a2, a3, a4, a5]) hp bytes hT hs hx hl hnews h1 hsz hb h63 fun a c' w' hp' => h a c' w' hp' trivial
end
end Go.Proofs.YtbpedjefoajegaaDoor.K
