/- Texts of this claim, merged: what the program's functions compute, and the rules that the walks use. -/
import Derived.Test.YtbpedjefoajegaaDoorProg
import Derived.Test.YtbpedjefoajegaaDoorZ1
import Derived.Test.YtbpedjefoajegaaDoorZ2
import Derived.Test.YtbpedjefoajegaaDoorZ3
namespace Go.Proofs.YtbpedjefoajegaaDoor.K
open Go Go.Proofs Go.RowKit
set_option linter.unusedVariables false
set_option linter.unusedSimpArgs false
set_option maxRecDepth 20000
set_option maxHeartbeats 4000000

def digB : ByteArray := ⟨#[48, 49, 50, 51, 52, 53, 54, 55, 56, 57, 97, 98, 99, 100, 101, 102]⟩
def ixD (c : Int) : Int := Lib.indexByte digB.data.toList c.toNat.toUInt8
theorem ixd_c (c : Int) (w : World) : Calls Tryd.prog 65 #[.string ⟨#[48, 49, 50, 51, 52, 53, 54, 55, 56, 57, 97, 98, 99, 100, 101, 102]⟩, .int .u8 c] w (fun x w' => x = .returned (.int .i64 (ixD c)) ∧ Fram Non w w') := ixb_c digB c w
theorem ixb_rng : ∀ (l : List UInt8) (c : UInt8), -1 ≤ Lib.indexByte l c ∧ Lib.indexByte l c ≤ (l.length : Int) - 1
  | [], c => by simp [Lib.indexByte]
  | b :: l, c => by
    have := ixb_rng l c
    simp only [Lib.indexByte, List.length_cons]
    split
    · omega
    · split <;> omega
theorem ixD_rng (c : Int) : -1 ≤ ixD c ∧ ixD c ≤ 15 := by
  have := ixb_rng digB.data.toList c.toNat.toUInt8
  rw [show (digB.data.toList.length : Int) = 16 from rfl] at this
  unfold ixD; omega
theorem ixD_hex {n : Nat} (h : n < 16) : ixD ((hexD n).toNat : Int) = n := (by decide +kernel : ∀ n : Nat, n < 16 → ixD ((hexD n).toNat : Int) = n) n h
theorem or16 {h l : Int} (h0 : 0 ≤ h ∧ h ≤ 15) (l0 : 0 ≤ l ∧ l ≤ 15) : IntKind.i64.wrap (BitVec.ofInt IntKind.i64.bits (IntKind.i64.wrap (h * 2 ^ (min (4 : Int).toNat IntKind.i64.bits))) ||| BitVec.ofInt IntKind.i64.bits l).toNat = h * 16 + l := by
  obtain ⟨a, rfl⟩ : ∃ a : Nat, h = a := ⟨h.toNat, by omega⟩
  obtain ⟨b, rfl⟩ : ∃ b : Nat, l = b := ⟨l.toNat, by omega⟩
  exact (by decide +kernel : ∀ a : Nat, a < 16 → ∀ b : Nat, b < 16 → IntKind.i64.wrap (BitVec.ofInt IntKind.i64.bits (IntKind.i64.wrap ((a : Int) * 2 ^ (min (4 : Int).toNat IntKind.i64.bits))) ||| BitVec.ofInt IntKind.i64.bits (b : Int)).toNat = (a : Int) * 16 + b) a (by omega) b (by omega)
theorem hex_at : ∀ (l : List UInt8) (j : Nat) (hj : j < l.length), (hexL l)[2 * j]? = some (hexD (l[j].toNat / 16)) ∧ (hexL l)[2 * j + 1]? = some (hexD (l[j].toNat % 16))
  | [], j, hj => absurd hj (by simp)
  | b :: l, 0, _ => by unfold hexL; rw [List.flatMap_cons]; exact ⟨rfl, rfl⟩
  | b :: l, j + 1, hj => by
    have ih := hex_at l j (by simpa using hj)
    unfold hexL at *
    rw [List.flatMap_cons, show 2 * (j + 1) = 2 * j + 1 + 1 from by omega]
    simpa using ih
def UnR (s : ByteArray) (xs : List Int) (ok : Bool) : Prop := ∀ t : ByteArray, t.data.toList ≠ [] → s = ⟨(hexL t.data.toList).toArray⟩ → ok = true ∧ strOf xs = t
def UnI (s : ByteArray) (xs : List Int) : Prop := ∀ t : ByteArray, t.data.toList ≠ [] → s = ⟨(hexL t.data.toList).toArray⟩ → (strOf xs).data.toList = t.data.toList.take xs.length
theorem un_at {s t : ByteArray} {j : Nat} (e : s = ⟨(hexL t.data.toList).toArray⟩) (h : 2 * j < s.size) : ∃ hj : j < t.data.toList.length, ixD (byteAt s ((2 * j : Nat) : Int)) = (t.data.toList[j].toNat / 16 : Nat) ∧ ixD (byteAt s ((2 * j + 1 : Nat) : Int)) = (t.data.toList[j].toNat % 16 : Nat) := by
  have hl : s.data.toList = hexL t.data.toList := by rw [e]
  have hz : s.size = 2 * t.data.toList.length := by rw [size_list, hl, hexL_len]
  have hj : j < t.data.toList.length := by omega
  obtain ⟨h1, h2⟩ := hex_at _ j hj
  have hlt := t.data.toList[j].toNat_lt
  refine ⟨hj, ?_, ?_⟩
  · have : byteAt s ((2 * j : Nat) : Int) = ((hexD (t.data.toList[j].toNat / 16)).toNat : Int) := by
      unfold byteAt
      rw [show ((2 * j : Nat) : Int).toNat = 2 * j from rfl, hl, h1]; rfl
    rw [this]; exact ixD_hex (by omega)
  · have : byteAt s ((2 * j + 1 : Nat) : Int) = ((hexD (t.data.toList[j].toNat % 16)).toNat : Int) := by
      unfold byteAt
      rw [show ((2 * j + 1 : Nat) : Int).toNat = 2 * j + 1 from rfl, hl, h2]; rfl
    rw [this]; exact ixD_hex (by omega)
theorem un_bad {s : ByteArray} {xs : List Int} {i : Int} (hi : i = 2 * (xs.length : Int)) (hlt : i < (s.size : Int)) (hb : ixD (byteAt s i) < 0 ∨ ixD (byteAt s (i + 1)) < 0) : UnR s [] false := by
  intro t ht e
  obtain ⟨hj, h1, h2⟩ := un_at (j := xs.length) e (by omega)
  rw [show i = ((2 * xs.length : Nat) : Int) from by omega] at hb
  rw [show (((2 * xs.length : Nat) : Int) + 1) = ((2 * xs.length + 1 : Nat) : Int) from by omega, h1, h2] at hb
  omega
theorem un_step {s : ByteArray} {xs : List Int} {i z : Int} (hi : i = 2 * (xs.length : Int)) (hlt : i < (s.size : Int)) (h : UnI s xs) (hz : z = ixD (byteAt s i) * 16 + ixD (byteAt s (i + 1))) : UnI s (xs ++ [z]) := by
  intro t ht e
  obtain ⟨hj, h1, h2⟩ := un_at (j := xs.length) e (by omega)
  rw [show i = ((2 * xs.length : Nat) : Int) from by omega, show (((2 * xs.length : Nat) : Int) + 1) = ((2 * xs.length + 1 : Nat) : Int) from by omega, h1, h2] at hz
  rw [strOf_app, h t ht e, List.length_append, List.length_singleton, List.take_succ_eq_append_getElem hj]
  congr 1
  show [UInt8.ofNat z.toNat] = _
  have hlt := t.data.toList[xs.length].toNat_lt
  rw [show z.toNat = t.data.toList[xs.length].toNat from by omega]; simp
theorem un_end {s : ByteArray} {xs : List Int} (hn : (s.size : Int) ≤ 2 * (xs.length : Int)) (h : UnI s xs) : UnR s xs true := by
  intro t ht e
  refine ⟨rfl, ba_ext ?_⟩
  have hz : s.size = 2 * t.data.toList.length := by rw [size_list, e]; simp [hexL_len]
  rw [h t ht e, List.take_of_length_le (by omega)]
theorem un_odd {s : ByteArray} (h : s = ⟨#[]⟩ ∨ ¬ (s.size : Int).tmod 2 = 0) : UnR s [] false := by
  intro t ht e
  have hz : s.size = 2 * t.data.toList.length := by rw [size_list, e]; simp [hexL_len]
  rcases h with h | h
  · rw [h] at hz
    have : t.data.toList.length = 0 := by have : (⟨#[]⟩ : ByteArray).size = 0 := rfl; omega
    exact absurd (List.eq_nil_of_length_eq_zero this) ht
  · exact absurd (by rw [Int.tmod_eq_emod_of_nonneg (by omega)]; omega) h
theorem sc_unwritten (s : ByteArray) (hs : s.size ≤ 1099511627776) (w : World) :
  Calls Tryd.prog 56 #[.string s] w (fun r_ w' => ∃ a n c xs ok, r_ = .returned (.tuple #[.slice a n c, .bool ok]) ∧ (UnR s xs ok ∧ xs.length ≤ s.size) ∧ Hp w Non [Res.own 5 1 (.slice a n c) n (xs.flatMap u8c)] w') := by
 refine calls_of Tryd.func56 rfl 46 rfl (by simp) ?_
 have hp0 := Hp.init w
 have he0 : List.map (env0 [.string s]) [0] = [.string s] := by kernel_rfl
 obtain ⟨b0, he0⟩ := toMk he0
 rw [he0]
 clear he0
 refine WP.seq (wP [0] [.string s] fun b1 => ?_)
 refine thn_n (WP.seq ?_)
 refine WP.cut (fun e11 w12 => ∃ (x9 : Bool), (True) ∧ Bp x9 (((s = ⟨#[]⟩)) ∨ ((¬ (s = ⟨#[]⟩)) ∧ (¬ (((s.size : Int).tmod 2) = 0)))) ∧ List.map e11 [0, 15] = [.string s, .bool x9] ∧ Hp w Non [] w12) ?_ ?_
 ·refine wR (oP 3 [0, 10] [.string s, .bool (decide (s = ⟨#[]⟩))] fun b3 => ?_)
  by_cases h4 : s = ⟨#[]⟩
  ·refine oP 0 [0, 10] [.string s, .bool (decide (s = ⟨#[]⟩))] fun b5 => ?_
   refine OPS.re [.string s, bT] (by rw [show (decide (s = ⟨#[]⟩)) = true from Bp.dec.tt h4]) ?_
   refine oQ 5 { wraps := [15] } [] [0, 15] [.string s, bT] .nil fun b6 => ?_
   refine OPS.nil (thn_n ?_)
   exact ⟨true, trivial, Bp.of Bp.t (by first | (simp [h4]; done) | grind | (simp_all; done)), by kernel_rfl, hp0⟩
  ·refine oP 0 [0, 10] [.string s, .bool (decide (s = ⟨#[]⟩))] fun b7 => ?_
   refine OPS.re [.string s, bF] (by rw [show (decide (s = ⟨#[]⟩)) = false from Bp.dec.ff h4]) ?_
   refine oQ 5 { wraps := [15] } [] [0, 15] [.string s, .bool (decide (¬ (((s.size : Int).tmod 2) = 0)))] (.cons (show (2 : Int) ≠ 0 from by omega) .nil) fun b8 => ?_
   refine OPS.nil (thn_n ?_)
   exact ⟨decide (¬ (((s.size : Int).tmod 2) = 0)), trivial, Bp.of Bp.dec (by first | (simp [h4]; done) | grind | (simp_all; done)), by kernel_rfl, hp0⟩
 rintro e11 w12 ⟨x9, hd14, hb10, hE15, hp13⟩
 obtain ⟨b16, rfl⟩ := toMk hE15
 clear hE15
 clear hd14
 refine WP.test (p := ((s = ⟨#[]⟩)) ∨ ((¬ (s = ⟨#[]⟩)) ∧ (¬ (((s.size : Int).tmod 2) = 0)))) rfl hb10 (fun h17 => ?_) (fun h17 => ?_)
 ·refine WP.seq (wP [2, 3] [nS, bF] fun b18 => ?_)
  refine thn_n (WP.ret (thn_r ?_))
  refine bodyQ.of _ rfl [nS, bF] ⟨rfl, rfl, trivial⟩ ?_
  exact ⟨none, 0, 0, [], false, rfl, ⟨un_odd (by have h_ := h17; first | exact h_ | grind), Nat.zero_le _⟩, (hp13.nil.nilOwn 5 1)⟩
 ·refine WP.skip (thn_n (WP.seq (wP [0, 4] [.string s, nS] fun b19 => ?_)))
  refine thn_n (WP.seq (WP.seq (wP [0, 4, 5] [.string s, nS, iI 0] fun b20 => ?_)))
  refine thn_n (WP.block ?_)
  have hp21 := (show Hp w Non [Res.own 5 1 (nS) 0 (List.flatMap u8c ([] : List Int))] w12 from hp13.nilOwn 5 1)
  have hev : ((s.size : Int)).tmod 2 = 0 := by have h_ := h17; grind
  rw [Int.tmod_eq_emod_of_nonneg (by omega)] at hev
  refine WP.loop (fun mz_ e22 w23 => ∃ (i : Int) (xs : List Int) (ao : Option Addr) (no : Nat) (co : Nat), mz_ = s.size - xs.length ∧ (i = 2 * (xs.length : Int) ∧ i ≤ (s.size : Int) ∧ UnI s xs) ∧ List.map e22 [0, 4, 5] = [.string s, .slice ao no co, iI i] ∧ Hp w Non [Res.own 5 1 (.slice ao no co) no (List.flatMap u8c xs)] w23) (s.size - ([]).length) ⟨0, [], none, 0, 0, rfl, ⟨by simp, by omega, fun t ht e => by simp [strOf]⟩, by kernel_rfl, hp21⟩ ?_
  rintro _ e22 w23 ⟨i, xs, ao, no, co, rfl, hI25, hE26, hp24⟩
  obtain ⟨b27, rfl⟩ := toMk hE26
  clear hE26
  obtain ⟨pa, pb, pc⟩ := hI25
  have pe := own_flat (sz := 1) (fun _ => rfl) (by decide) hp24.get0
  have r1 := ixD_rng (byteAt s i)
  have r2 := ixD_rng (byteAt s (i + 1))
  refine WP.seq (WP.seq (wP [0, 4, 5, 19] [.string s, .slice ao no co, iI i, .bool (decide (i < (s.size : Int)))] fun b28 => ?_))
  refine thn_n ?_
  refine WP.test (p := i < (s.size : Int)) rfl Bp.dec (fun h29 => ?_) (fun h29 => ?_)
  ·refine WP.skip (thn_n (WP.seq (WP.block (WP.seq ?_))))
   have hp32 := hp24.drew
   refine WP.quiet (fun w30 => Hp w Non [Res.own 5 1 (.slice ao no co) no (List.flatMap u8c xs)] w30) (by kernel_rfl) hp32 ?_
   have hnehp32 : ∃ wz_, (fun w30 => Hp w Non [Res.own 5 1 (.slice ao no co) no (List.flatMap u8c xs)] w30) wz_ := ⟨_, hp32⟩
   refine QOPS.batch 3 {} [] [0, 4, 5, 24] [.string s, .slice ao no co, iI i, .int .u8 (byteAt s (i))] hnehp32 (fun w33 hp34 => QB.mk (.cons (show InB (i) s.size from ⟨by omega, by omega⟩) .nil) (by kernel_rfl)) (fun b35 => ?_)
   refine QOPS.call (some 25) [.string ⟨#[48, 49, 50, 51, 52, 53, 54, 55, 56, 57, 97, 98, 99, 100, 101, 102]⟩, .int .u8 (byteAt s (i))] (by kernel_rfl) (fun w36 hp37 => (ixd_c (byteAt s (i)) _).mono fun _ _ h => ⟨h.1, hp37.step h.2⟩) ?_
   refine QOPS.batch 4 {} [] [0, 4, 5, 25, 29] [.string s, .slice ao no co, iI i, iI (ixD (byteAt s (i))), .int .u8 (byteAt s (i + 1))] hnehp32 (fun w38 hp39 => QB.mk (.cons (show Rng .i64 (i + 1) from Rng.i64 (by omega)) (.cons (show InB (i + 1) s.size from ⟨by omega, by omega⟩) .nil)) (by kernel_rfl)) (fun b40 => ?_)
   refine QOPS.call (some 30) [.string ⟨#[48, 49, 50, 51, 52, 53, 54, 55, 56, 57, 97, 98, 99, 100, 101, 102]⟩, .int .u8 (byteAt s (i + 1))] (by kernel_rfl) (fun w41 hp42 => (ixd_c (byteAt s (i + 1)) _).mono fun _ _ h => ⟨h.1, hp42.step h.2⟩) ?_
   refine QOPS.batch 2 {} [] [0, 4, 5, 6, 7] [.string s, .slice ao no co, iI i, iI (ixD (byteAt s (i))), iI (ixD (byteAt s (i + 1)))] hnehp32 (fun w43 hp44 => QB.mk .nil (by kernel_rfl)) (fun b45 => ?_)
   refine QOPS.nil (fun w46 hp47 => ?_)
   refine thn_n (WP.seq ?_)
   refine WP.cut (fun e57 w58 => ∃ (x55 : Bool), (True) ∧ Bp x55 ((((ixD (byteAt s (i))) < 0)) ∨ ((¬ ((ixD (byteAt s (i))) < 0)) ∧ ((ixD (byteAt s (i + 1))) < 0))) ∧ List.map e57 [0, 4, 5, 6, 7, 36] = [.string s, .slice ao no co, iI i, iI (ixD (byteAt s (i))), iI (ixD (byteAt s (i + 1))), .bool x55] ∧ Hp w Non [Res.own 5 1 (.slice ao no co) no (List.flatMap u8c xs)] w58) ?_ ?_
   ·refine wR (oP 3 [0, 4, 5, 6, 7, 33] [.string s, .slice ao no co, iI i, iI (ixD (byteAt s (i))), iI (ixD (byteAt s (i + 1))), .bool (decide ((ixD (byteAt s (i))) < 0))] fun b49 => ?_)
    by_cases h50 : (ixD (byteAt s (i))) < 0
    ·refine oP 0 [0, 4, 5, 6, 7, 33] [.string s, .slice ao no co, iI i, iI (ixD (byteAt s (i))), iI (ixD (byteAt s (i + 1))), .bool (decide ((ixD (byteAt s (i))) < 0))] fun b51 => ?_
     refine OPS.re [.string s, .slice ao no co, iI i, iI (ixD (byteAt s (i))), iI (ixD (byteAt s (i + 1))), bT] (by rw [show (decide ((ixD (byteAt s (i))) < 0)) = true from Bp.dec.tt h50]) ?_
     refine oQ 3 { wraps := [36] } [] [0, 4, 5, 6, 7, 36] [.string s, .slice ao no co, iI i, iI (ixD (byteAt s (i))), iI (ixD (byteAt s (i + 1))), bT] .nil fun b52 => ?_
     refine OPS.nil (thn_n ?_)
     exact ⟨true, trivial, Bp.of Bp.t (by first | (simp [h50]; done) | grind | (simp_all; done)), by kernel_rfl, hp47⟩
    ·refine oP 0 [0, 4, 5, 6, 7, 33] [.string s, .slice ao no co, iI i, iI (ixD (byteAt s (i))), iI (ixD (byteAt s (i + 1))), .bool (decide ((ixD (byteAt s (i))) < 0))] fun b53 => ?_
     refine OPS.re [.string s, .slice ao no co, iI i, iI (ixD (byteAt s (i))), iI (ixD (byteAt s (i + 1))), bF] (by rw [show (decide ((ixD (byteAt s (i))) < 0)) = false from Bp.dec.ff h50]) ?_
     refine oQ 3 { wraps := [36] } [] [0, 4, 5, 6, 7, 36] [.string s, .slice ao no co, iI i, iI (ixD (byteAt s (i))), iI (ixD (byteAt s (i + 1))), .bool (decide ((ixD (byteAt s (i + 1))) < 0))] .nil fun b54 => ?_
     refine OPS.nil (thn_n ?_)
     exact ⟨decide ((ixD (byteAt s (i + 1))) < 0), trivial, Bp.of Bp.dec (by first | (simp [h50]; done) | grind | (simp_all; done)), by kernel_rfl, hp47⟩
   rintro e57 w58 ⟨x55, hd60, hb56, hE61, hp59⟩
   obtain ⟨b62, rfl⟩ := toMk hE61
   clear hE61
   clear hd60
   refine WP.test (p := (((ixD (byteAt s (i))) < 0)) ∨ ((¬ ((ixD (byteAt s (i))) < 0)) ∧ ((ixD (byteAt s (i + 1))) < 0))) rfl hb56 (fun h63 => ?_) (fun h63 => ?_)
   ·refine WP.seq (wP [2, 3] [nS, bF] fun b64 => ?_)
    refine thn_n (WP.ret (thn_r ?_))
    refine blk_r ?_
    refine thn_r (thn_r ?_)
    refine blk_r ?_
    refine thn_r ?_
    refine bodyQ.of _ rfl [nS, bF] ⟨rfl, rfl, trivial⟩ ?_
    exact ⟨none, 0, 0, [], false, rfl, ⟨un_bad pa (by omega) (by have h_ := h63; first | exact h_ | (simp_all; done) | grind), Nat.zero_le _⟩, (hp59.nil.nilOwn 5 1)⟩
   ·refine WP.skip (thn_n ?_)
    have hg : 0 ≤ ixD (byteAt s i) ∧ 0 ≤ ixD (byteAt s (i + 1)) := by have h_ := h63; omega
    have hor := or16 (h := ixD (byteAt s i)) (l := ixD (byteAt s (i + 1))) (by omega) (by omega)
    refine wR (oQ 6 { wraps := [39] } [] [0, 5, 37, 42] [.string s, iI i, .slice ao no co, .int .u8 (IntKind.i64.wrap (BitVec.ofInt IntKind.i64.bits (IntKind.i64.wrap ((ixD (byteAt s (i))) * 2 ^ (min (4 : Int).toNat IntKind.i64.bits))) ||| BitVec.ofInt IntKind.i64.bits (ixD (byteAt s (i + 1)))).toNat)] (.cons (show (0 : Int) ≤ 4 from by omega) (.cons (show Rng .u8 (IntKind.i64.wrap (BitVec.ofInt IntKind.i64.bits (IntKind.i64.wrap ((ixD (byteAt s (i))) * 2 ^ (min (4 : Int).toNat IntKind.i64.bits))) ||| BitVec.ofInt IntKind.i64.bits (ixD (byteAt s (i + 1)))).toNat) from Rng.u8 (by omega)) .nil)) fun b65 => ?_)
    refine OPS.cons (opStep.buildSlice (E := 5) hp59 [.int .u8 (IntKind.i64.wrap (BitVec.ofInt IntKind.i64.bits (IntKind.i64.wrap ((ixD (byteAt s (i))) * 2 ^ (min (4 : Int).toNat IntKind.i64.bits))) ||| BitVec.ofInt IntKind.i64.bits (ixD (byteAt s (i + 1)))).toNat)] (by kernel_rfl) (fun g68 w66 hp67 => ?_))
    refine OPS.cons (opStep.append1 [.int .u8 (IntKind.i64.wrap (BitVec.ofInt IntKind.i64.bits (IntKind.i64.wrap ((ixD (byteAt s (i))) * 2 ^ (min (4 : Int).toNat IntKind.i64.bits))) ||| BitVec.ofInt IntKind.i64.bits (ixD (byteAt s (i + 1)))).toNat)] hp67 1 (by kernel_rfl) rfl rfl rfl (SlR.row (n := 1) hp67.get0 rfl).rd (List.all_eq_true.1 (by kernel_rfl)) (by decide) (by omega) (by omega) (fun a71 c72 w73 hp74 hn75 => ?_))
    rw [(show List.flatMap u8c xs ++ [.int .u8 (IntKind.i64.wrap (BitVec.ofInt IntKind.i64.bits (IntKind.i64.wrap ((ixD (byteAt s (i))) * 2 ^ (min (4 : Int).toNat IntKind.i64.bits))) ||| BitVec.ofInt IntKind.i64.bits (ixD (byteAt s (i + 1)))).toNat)] = List.flatMap u8c (xs ++ [IntKind.i64.wrap (BitVec.ofInt IntKind.i64.bits (IntKind.i64.wrap ((ixD (byteAt s (i))) * 2 ^ (min (4 : Int).toNat IntKind.i64.bits))) ||| BitVec.ofInt IntKind.i64.bits (ixD (byteAt s (i + 1)))).toNat]) from (List.flatMap_append (xs := xs) (ys := [IntKind.i64.wrap (BitVec.ofInt IntKind.i64.bits (IntKind.i64.wrap ((ixD (byteAt s (i))) * 2 ^ (min (4 : Int).toNat IntKind.i64.bits))) ||| BitVec.ofInt IntKind.i64.bits (ixD (byteAt s (i + 1)))).toNat])).symm)] at hp74
    refine oP 1 [0, 4, 5] [.string s, .slice a71 (no + 1) c72, iI i] fun b76 => ?_
    refine OPS.nil (blk_n (thn_n (wQ {} [] [0, 4, 5] [.string s, .slice a71 (no + 1) c72, iI (i + 2)] (.cons (show Rng .i64 (i + 2) from Rng.i64 (by omega)) .nil) fun b77 => ?_)))
    refine thn_n ?_
    exact ⟨s.size - (xs ++ [IntKind.i64.wrap (BitVec.ofInt IntKind.i64.bits (IntKind.i64.wrap ((ixD (byteAt s (i))) * 2 ^ (min (4 : Int).toNat IntKind.i64.bits))) ||| BitVec.ofInt IntKind.i64.bits (ixD (byteAt s (i + 1)))).toNat]).length, (by rw [List.length_append, List.length_singleton]; omega), (i + 2), xs ++ [IntKind.i64.wrap (BitVec.ofInt IntKind.i64.bits (IntKind.i64.wrap ((ixD (byteAt s (i))) * 2 ^ (min (4 : Int).toNat IntKind.i64.bits))) ||| BitVec.ofInt IntKind.i64.bits (ixD (byteAt s (i + 1)))).toNat], a71, no + 1, c72, rfl, ⟨by rw [List.length_append, List.length_singleton]; omega, by omega, un_step pa (by omega) pc hor⟩, by kernel_rfl, (hp74.sub (.cons _ (.cons_cons _ (.slnil))))⟩
  ·refine WP.exit (thn_x (thn_x (blk_hit (thn_n (WP.seq (wP [2, 3] [.slice ao no co, bT] fun b78 => ?_))))))
   refine thn_n (WP.ret ?_)
   refine bodyQ.of _ rfl [.slice ao no co, bT] ⟨rfl, rfl, trivial⟩ ?_
   exact ⟨ao, no, co, xs, true, rfl, ⟨un_end (by omega) pc, by omega⟩, hp24⟩

end Go.Proofs.YtbpedjefoajegaaDoor.K
namespace Go.Proofs.YtbpedjefoajegaaDoor.K
open Go Go.Proofs Go.RowKit
set_option linter.unusedVariables false
set_option linter.unusedSimpArgs false
set_option maxRecDepth 20000
set_option maxHeartbeats 4000000
noncomputable abbrev qq0 := fun a0 a1 => ([iI a0, bT, .pointer (some ⟨a1, 1, none⟩)] : List Go.Value)

theorem w_next (w0 : World) (L : List Res) (wb gb : Nat) (h : SlH) (ws : List ByteArray) (bad : Bool) (w : World) (hp0 : Hp w0 Non (Res.row wb [.slice h.a h.n h.c, .bool bad] 75 :: Res.lst gb h ws :: L) w) :
  Calls Tryd.prog 40 #[.pointer (some ⟨wb, 0, none⟩)] w (fun r_ w' => ∃ h', r_ = .returned (.string (ws.headD ByteArray.empty)) ∧ Hp w0 Non (Res.row wb [.slice h'.a h'.n h'.c, .bool (bad || ws.isEmpty)] 75 :: Res.lst gb h' ws.tail :: L) w') := by
 have hln := lst_len hp0.get1
 refine calls_of Tryd.func40 rfl 28 rfl (by simp) ?_
 have he0 : List.map (env0 [pP wb]) [0] = [pP wb] := by kernel_rfl
 obtain ⟨b0, he0⟩ := toMk he0
 rw [he0]
 clear he0
 refine WP.seq (wP [0] [pP wb] fun b1 => ?_)
 refine thn_n (WP.seq (WP.seq (wQ {} [.slice h.a h.n h.c] [0, 9] [pP wb, .bool (decide (((h.n : Nat) : Int) = 0))] (.cons (l1 36 0 (.slice h.a h.n h.c) hp0.get0) .nil) fun b2 => ?_)))
 refine thn_n ?_
 refine WP.test (p := ((h.n : Nat) : Int) = 0) rfl Bp.dec (fun h3 => ?_) (fun h3 => ?_)
 ·refine WP.seq (wR (oP 3 [12] [.pointer (some ⟨wb, 1, none⟩)] fun b4 => ?_))
  refine OPS.cons (opStep.store0 hp0 rfl [bT] [.slice h.a h.n h.c, bT] (by kernel_rfl) (fun w5 hp6 => ?_))
  refine OPS.nil (thn_n (WP.seq (wP [2] [.string ⟨#[]⟩] fun b7 => ?_)))
  refine thn_n (WP.ret (thn_r ?_))
  refine bodyQ.of _ rfl [.string ⟨#[]⟩] ⟨rfl, trivial⟩ ?_
  have hws : ws = [] := List.eq_nil_of_length_eq_zero (by omega)
  subst hws
  refine ⟨h, rfl, ?_⟩
  rw [show (bad || ([] : List ByteArray).isEmpty) = true from by simp]
  exact hp6
 ·refine WP.skip (thn_n (WP.seq ?_))
  have hy9 : (ws)[0]? = some ws[0]! := get_bang (by first | (omega) | (simp only [List.length_append, List.length_cons, List.length_nil]; omega) | (simp only [List.length_take, List.length_append, List.length_cons, List.length_nil]; omega))
  refine wQ {} [.slice h.a h.n h.c, .string (ws[0]!)] [0, 3] [pP wb, .string (ws[0]!)] (.cons (l1 36 0 (.slice h.a h.n h.c) hp0.get0) (.cons (show InB (0) (h.n) from ⟨by omega, by omega⟩) (.cons ((lst_slr hp0.get1).some (by omega)) (.cons (Ld.add0 (Ld.el1 (P := Tryd.prog) (t := 9) (lst_slr hp0.get1).rd 1 (fun _ => rfl) hy9 (o := 0) (v := .string (ws[0]!)) (by kernel_rfl))) .nil)))) fun b10 => ?_
  refine thn_n (WP.seq (wR (oQ 8 {} [.slice h.a h.n h.c] [3, 24, 26] [.string (ws[0]!), .slice (slOff h.a h.c (1) 1) (h.n - 1) (h.c - 1), pP wb] (.cons (l1 36 0 (.slice h.a h.n h.c) hp0.get0) (.cons (show (0 : Int) ≤ 1 ∧ 1 ≤ ((h.n : Nat) : Int) from ⟨by omega, by omega⟩) .nil)) fun b11 => ?_)))
  refine OPS.cons (opStep.store0 hp0 rfl [.slice (slOff h.a h.c (1) 1) (h.n - 1) (h.c - 1)] [.slice (slOff h.a h.c (1) 1) (h.n - 1) (h.c - 1), .bool bad] (by kernel_rfl) (fun w12 hp13 => ?_))
  refine OPS.nil (thn_n (WP.seq (wP [2] [.string (ws[0]!)] fun b14 => ?_)))
  refine thn_n (WP.ret ?_)
  refine bodyQ.of _ rfl [.string (ws[0]!)] ⟨rfl, trivial⟩ ?_
  have hp15 := hp13.turn1 (Res.lst gb ⟨slOff h.a h.c 1 1, h.n - 1, h.c - 1⟩ ws.tail) (lst_tail (by omega)) (fun _ hb => hb)
  cases ws with
  | nil => simp at hln; omega
  | cons x r => exact ⟨⟨slOff h.a h.c 1 1, h.n - 1, h.c - 1⟩, rfl, by rw [show (bad || (x :: r).isEmpty) = bad from by simp]; exact hp15⟩

theorem w_number (w0 : World) (L : List Res) (wb gb : Nat) (h : SlH) (ws : List ByteArray) (bad : Bool) (w : World) (hl : LibP w0) (hsz : ∀ x ∈ ws, x.size ≤ 281474976710656) (hp0 : Hp w0 Non (Res.row wb [.slice h.a h.n h.c, .bool bad] 75 :: Res.lst gb h ws :: L) w) :
  Calls Tryd.prog 41 #[.pointer (some ⟨wb, 0, none⟩)] w (fun r_ w' => ∃ h' v b', r_ = .returned (.int .i64 v) ∧ NumR bad ws v b' ∧ Hp w0 Non (Res.row wb [.slice h'.a h'.n h'.c, .bool b'] 75 :: Res.lst gb h' ws.tail :: L) w') := by
 refine calls_of Tryd.func41 rfl 23 rfl (by simp) ?_
 have he0 : List.map (env0 [pP wb]) [0] = [pP wb] := by kernel_rfl
 obtain ⟨b0, he0⟩ := toMk he0
 rw [he0]
 clear he0
 refine WP.seq (wP [0] [pP wb] fun b1 => ?_)
 refine thn_n (WP.seq (wR (oP 1 [0, 6] [pP wb, pP wb] fun b2 => ?_)))
 have hp5 := hp0.pull1
 have hp6 := hp5.pull1
 refine OPS.cons (opStep.call (some 7) [pP wb] (by kernel_rfl) (w_next _ _ wb gb h ws bad _ hp6) ?_)
 rintro _ w7 ⟨h9, rfl, hp8⟩
 refine ⟨_, rfl, ?_⟩
 refine OPS.cons (opStep.call (some 8) [.string (ws.headD ByteArray.empty)] (by kernel_rfl) (atoi_b (ws.headD ByteArray.empty) (head_size hsz) _ (hl.fram hp8.fr)) ?_)
 rintro _ w12 ⟨v15, _, rfl, hv16r, (⟨rfl, hv16⟩ | ⟨⟨te17, ge18, rfl⟩, hv16⟩), hf13⟩
 ·refine ⟨_, rfl, ?_⟩
  have hp14 := hp8.step hf13
  refine oP 5 [0, 3, 4] [pP wb, iI v15, .nilIface] fun b19 => ?_
  refine OPS.nil (thn_n (WP.seq (wR (oQ 6 {} [.bool (bad || ws.isEmpty)] [3, 4, 11, 16] [iI v15, .nilIface, pP wb, .bool (bad || ws.isEmpty)] (.cons (l1 4 1 (.bool (bad || ws.isEmpty)) hp14.get0) .nil) fun b20 => ?_))))
  by_cases h21 : (bad || ws.isEmpty) = true
  ·refine oP 0 [3, 4, 11, 16] [iI v15, .nilIface, pP wb, .bool (bad || ws.isEmpty)] fun b22 => ?_
   refine OPS.re [iI v15, .nilIface, pP wb, bT] (by rw [show (bad || ws.isEmpty) = true from Bp.var.tt h21]) ?_
   refine oQ 5 { wraps := [19] } [] [3, 19, 21] (qq0 v15 wb) .nil fun b23 => ?_
   refine OPS.cons (opStep.store0 hp14 rfl [bT] [.slice h9.a h9.n h9.c, bT] (by kernel_rfl) (fun w24 hp25 => ?_))
   refine OPS.nil (thn_n (WP.seq (wP [2] [iI v15] fun b26 => ?_)))
   refine thn_n (WP.ret ?_)
   refine bodyQ.of _ rfl [iI v15] ⟨rfl, trivial⟩ ?_
   exact ⟨h9, v15, _, rfl, num_of hv16r (.inl ⟨rfl, h21⟩), hp25⟩
  ·refine oP 0 [3, 4, 11, 16] [iI v15, .nilIface, pP wb, .bool (bad || ws.isEmpty)] fun b27 => ?_
   refine OPS.re [iI v15, .nilIface, pP wb, bF] (by rw [show (bad || ws.isEmpty) = false from Bp.var.ff h21]) ?_
   refine oQ 5 { wraps := [19] } [] [3, 19, 21] [iI v15, bF, .pointer (some ⟨wb, 1, none⟩)] .nil fun b28 => ?_
   refine OPS.cons (opStep.store0 hp14 rfl [bF] [.slice h9.a h9.n h9.c, bF] (by kernel_rfl) (fun w29 hp30 => ?_))
   refine OPS.nil (thn_n (WP.seq (wP [2] [iI v15] fun b31 => ?_)))
   refine thn_n (WP.ret ?_)
   refine bodyQ.of _ rfl [iI v15] ⟨rfl, trivial⟩ ?_
   exact ⟨h9, v15, _, rfl, num_of hv16r (.inr ⟨h21, .inr ⟨rfl, hv16⟩⟩), hp30⟩
 ·refine ⟨_, rfl, ?_⟩
  have hp14 := hp8.step hf13
  refine oP 5 [0, 3, 4] [pP wb, iI v15, .iface te17 (pP ge18)] fun b32 => ?_
  refine OPS.nil (thn_n (WP.seq (wR (oQ 6 {} [.bool (bad || ws.isEmpty)] [3, 4, 11, 16] [iI v15, .iface te17 (pP ge18), pP wb, .bool (bad || ws.isEmpty)] (.cons (l1 4 1 (.bool (bad || ws.isEmpty)) hp14.get0) .nil) fun b33 => ?_))))
  by_cases h34 : (bad || ws.isEmpty) = true
  ·refine oP 0 [3, 4, 11, 16] [iI v15, .iface te17 (pP ge18), pP wb, .bool (bad || ws.isEmpty)] fun b35 => ?_
   refine OPS.re [iI v15, .iface te17 (pP ge18), pP wb, bT] (by rw [show (bad || ws.isEmpty) = true from Bp.var.tt h34]) ?_
   refine oQ 5 { wraps := [19] } [] [3, 19, 21] (qq0 v15 wb) .nil fun b36 => ?_
   refine OPS.cons (opStep.store0 hp14 rfl [bT] [.slice h9.a h9.n h9.c, bT] (by kernel_rfl) (fun w37 hp38 => ?_))
   refine OPS.nil (thn_n (WP.seq (wP [2] [iI v15] fun b39 => ?_)))
   refine thn_n (WP.ret ?_)
   refine bodyQ.of _ rfl [iI v15] ⟨rfl, trivial⟩ ?_
   exact ⟨h9, v15, _, rfl, num_of hv16r (.inl ⟨rfl, h34⟩), hp38⟩
  ·refine oP 0 [3, 4, 11, 16] [iI v15, .iface te17 (pP ge18), pP wb, .bool (bad || ws.isEmpty)] fun b40 => ?_
   refine OPS.re [iI v15, .iface te17 (pP ge18), pP wb, bF] (by rw [show (bad || ws.isEmpty) = false from Bp.var.ff h34]) ?_
   refine oQ 5 { wraps := [19] } [] [3, 19, 21] (qq0 v15 wb) .nil fun b41 => ?_
   refine OPS.cons (opStep.store0 hp14 rfl [bT] [.slice h9.a h9.n h9.c, bT] (by kernel_rfl) (fun w42 hp43 => ?_))
   refine OPS.nil (thn_n (WP.seq (wP [2] [iI v15] fun b44 => ?_)))
   refine thn_n (WP.ret ?_)
   refine bodyQ.of _ rfl [iI v15] ⟨rfl, trivial⟩ ?_
   exact ⟨h9, v15, _, rfl, num_of hv16r (.inr ⟨h34, .inl ⟨rfl, hv16⟩⟩), hp43⟩

theorem byt_of {bad : Bool} {ws : List ByteArray} {v : ByteArray} {b' : Bool} (h : (ws.headD ByteArray.empty = (⟨#[45]⟩ : ByteArray) ∧ v = ⟨#[]⟩ ∧ b' = (bad || ws.isEmpty)) ∨ (¬ ws.headD ByteArray.empty = (⟨#[45]⟩ : ByteArray) ∧ ∃ xs ok, (UnR (ws.headD ByteArray.empty) xs ok ∧ xs.length ≤ (ws.headD ByteArray.empty).size) ∧ v = strOf xs ∧ (b' = true ↔ (bad || ws.isEmpty) = true ∨ ¬ ok = true))) : BytR bad ws v b' := by
  refine ⟨?_, fun t b hb hs ht => ?_⟩
  · rcases h with ⟨_, h1, _⟩ | ⟨_, xs, ok, h1, h2, _⟩
    · rw [h1]; exact Nat.zero_le _
    · rw [h2, strOf_len]; exact h1.2
  subst hb
  cases ws with
  | nil => simp at hs
  | cons x r =>
    simp only [List.head?_cons, Option.some.injEq] at hs
    subst hs
    simp only [List.headD_cons, List.isEmpty_cons, Bool.or_false] at h
    unfold hexT at ht
    split at ht
    · rename_i hn
      rcases h with ⟨_, h1, h2⟩ | ⟨h1, _⟩
      · exact ⟨h2, h1.trans (ba_ext (by rw [hn]))⟩
      · exact absurd ht h1
    · rename_i hn
      rcases h with ⟨h1, _⟩ | ⟨h1, xs, ok, h2, h3, h4⟩
      · have : hexT b = (⟨#[45]⟩ : ByteArray) := by unfold hexT; rw [if_neg hn, ← ht, h1]
        rw [show (⟨#[45]⟩ : ByteArray) = hexT ⟨#[]⟩ from rfl] at this
        exact absurd (by rw [hexT_inj this]) hn
      · obtain ⟨e1, e2⟩ := h2.1 b hn ht
        refine ⟨?_, h3.trans e2⟩
        cases b' with
        | false => rfl
        | true => rcases h4.1 rfl with q | q
                  · cases q
                  · exact absurd e1 q
theorem w_bytes (w0 : World) (L : List Res) (wb gb : Nat) (h : SlH) (ws : List ByteArray) (bad : Bool) (w : World) (hsz : ∀ x ∈ ws, x.size ≤ 1099511627776) (hp0 : Hp w0 Non (Res.row wb [.slice h.a h.n h.c, .bool bad] 75 :: Res.lst gb h ws :: L) w) :
  Calls Tryd.prog 48 #[.pointer (some ⟨wb, 0, none⟩)] w (fun r_ w' => ∃ h' v b', r_ = .returned (.string v) ∧ BytR bad ws v b' ∧ Hp w0 Non (Res.row wb [.slice h'.a h'.n h'.c, .bool b'] 75 :: Res.lst gb h' ws.tail :: L) w') := by
 refine calls_of Tryd.func48 rfl 28 rfl (by simp) ?_
 have he0 : List.map (env0 [pP wb]) [0] = [pP wb] := by kernel_rfl
 obtain ⟨b0, he0⟩ := toMk he0
 rw [he0]
 clear he0
 refine WP.seq (wP [0] [pP wb] fun b1 => ?_)
 refine thn_n (WP.seq (wR (oP 1 [0, 6] [pP wb, pP wb] fun b2 => ?_)))
 have hp5 := hp0.pull1
 have hp6 := hp5.pull1
 refine OPS.cons (opStep.call (some 7) [pP wb] (by kernel_rfl) (w_next _ _ wb gb h ws bad _ hp6) ?_)
 rintro _ w7 ⟨h9, rfl, hp8⟩
 refine ⟨_, rfl, ?_⟩
 refine oP 1 [0, 3] [pP wb, .string (ws.headD ByteArray.empty)] fun b10 => ?_
 refine OPS.nil (thn_n (WP.seq (WP.seq (wP [0, 3, 9] [pP wb, .string (ws.headD ByteArray.empty), .bool (decide ((ws.headD ByteArray.empty) = ⟨#[45]⟩))] fun b11 => ?_))))
 refine thn_n ?_
 refine WP.test (p := (ws.headD ByteArray.empty) = ⟨#[45]⟩) rfl Bp.dec (fun h12 => ?_) (fun h12 => ?_)
 ·refine WP.seq (wP [2] [.string ⟨#[]⟩] fun b13 => ?_)
  refine thn_n (WP.ret (thn_r ?_))
  refine bodyQ.of _ rfl [.string ⟨#[]⟩] ⟨rfl, trivial⟩ ?_
  exact ⟨h9, _, _, rfl, byt_of (.inl ⟨h12, rfl, rfl⟩), hp8⟩
 ·refine WP.skip (thn_n (WP.seq (wR (oP 1 [0, 11] [pP wb, .string (ws.headD ByteArray.empty)] fun b14 => ?_))))
  refine OPS.cons (opStep.call (some 12) [.string (ws.headD ByteArray.empty)] (by kernel_rfl) (sc_unwritten (ws.headD ByteArray.empty) (by have h_ := head_size hsz; omega) _) ?_)
  rintro _ w17 ⟨a19, n20, c21, xs22, ok23, rfl, hu24, hp18⟩
  refine ⟨_, rfl, ?_⟩
  have hp25 := hp8.madeQ hp18
  simp only [List.cons_append, List.nil_append] at hp25
  refine oP 5 [0, 4, 5] [pP wb, .slice a19 n20 c21, .bool ok23] fun b26 => ?_
  refine OPS.nil (thn_n ?_)
  refine WP.cut (fun e40 w41 => ∃ (x38 : Bool), (True) ∧ Bp x38 ((((bad || ws.isEmpty) = true)) ∨ ((¬ ((bad || ws.isEmpty) = true)) ∧ (¬ (ok23 = true)))) ∧ List.map e40 [4] = [.slice a19 n20 c21] ∧ Hp w0 Non (Res.own 5 1 (.slice a19 n20 c21) n20 (List.flatMap u8c xs22) :: Res.row wb [.slice h9.a h9.n h9.c, .bool x38] 75 :: Res.lst gb h9 ws.tail :: L) w41) ?_ ?_
  ·refine wR (oQ 6 {} [.bool (bad || ws.isEmpty)] [4, 5, 15, 20] [.slice a19 n20 c21, .bool ok23, pP wb, .bool (bad || ws.isEmpty)] (.cons (l1 4 1 (.bool (bad || ws.isEmpty)) hp25.get1) .nil) fun b28 => ?_)
   by_cases h29 : (bad || ws.isEmpty) = true
   ·refine oP 0 [4, 5, 15, 20] [.slice a19 n20 c21, .bool ok23, pP wb, .bool (bad || ws.isEmpty)] fun b30 => ?_
    refine OPS.re [.slice a19 n20 c21, .bool ok23, pP wb, bT] (by rw [show (bad || ws.isEmpty) = true from Bp.var.tt h29]) ?_
    refine oQ 5 { wraps := [23] } [] [4, 23, 25] [.slice a19 n20 c21, bT, .pointer (some ⟨wb, 1, none⟩)] .nil fun b31 => ?_
    refine OPS.cons (opStep.store1 hp25 rfl [bT] [.slice h9.a h9.n h9.c, bT] (by kernel_rfl) (fun w32 hp33 => ?_))
    refine OPS.nil (thn_n ?_)
    exact ⟨true, trivial, Bp.of Bp.t (by first | (simp [h29]; done) | grind | (simp_all; done)), by kernel_rfl, hp33⟩
   ·refine oP 0 [4, 5, 15, 20] [.slice a19 n20 c21, .bool ok23, pP wb, .bool (bad || ws.isEmpty)] fun b34 => ?_
    refine OPS.re [.slice a19 n20 c21, .bool ok23, pP wb, bF] (by rw [show (bad || ws.isEmpty) = false from Bp.var.ff h29]) ?_
    refine oQ 5 { wraps := [23] } [] [4, 23, 25] [.slice a19 n20 c21, .bool (!ok23), .pointer (some ⟨wb, 1, none⟩)] .nil fun b35 => ?_
    refine OPS.cons (opStep.store1 hp25 rfl [.bool (!ok23)] [.slice h9.a h9.n h9.c, .bool (!ok23)] (by kernel_rfl) (fun w36 hp37 => ?_))
    refine OPS.nil (thn_n ?_)
    exact ⟨!ok23, trivial, Bp.of (Bp.not Bp.var) (by first | (simp [h29]; done) | grind | (simp_all; done)), by kernel_rfl, hp37⟩
  rintro e40 w41 ⟨x38, hd43, hb39, hE44, hp42⟩
  obtain ⟨b45, rfl⟩ := toMk hE44
  clear hE44
  clear hd43
  refine WP.seq (wQ {} [.string (strOf xs22)] [2] [.string (strOf xs22)] (.cons (show Bs Tryd.prog w41 (.slice a19 n20 c21) (.string (strOf xs22)) from Bs.of (SlR.own hp42.get0) (own_flat (sz := 1) (fun _ => rfl) (by decide) hp42.get0)) .nil) fun b46 => ?_)
  refine thn_n (WP.ret ?_)
  refine bodyQ.of _ rfl [.string (strOf xs22)] ⟨rfl, trivial⟩ ?_
  exact ⟨h9, _, _, rfl, byt_of (.inr ⟨h12, xs22, ok23, hu24, rfl, (show _ ↔ _ from hb39).trans (by first | (simp; done) | grind)⟩), (hp42.sub (.cons _ (.cons_cons _ (.cons_cons _ (.refl _)))))⟩

end Go.Proofs.YtbpedjefoajegaaDoor.K
