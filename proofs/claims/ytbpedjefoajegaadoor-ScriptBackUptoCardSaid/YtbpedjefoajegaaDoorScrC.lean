/- The walks of ScrC: what each function computes. -/
import Derived.Test.YtbpedjefoajegaaDoorProg
import Derived.Test.YtbpedjefoajegaaDoorCoreO
import Derived.Test.YtbpedjefoajegaaDoorScrB
namespace Go.Proofs.YtbpedjefoajegaaDoor.K
open Go Go.Proofs Go.RowKit
set_option linter.unusedVariables false
set_option linter.unusedSimpArgs false
set_option maxRecDepth 20000
set_option maxHeartbeats 4000000

def digB : ByteArray := ⟨#[48, 49, 50, 51, 52, 53, 54, 55, 56, 57, 97, 98, 99, 100, 101, 102]⟩
def ixD (c : Int) : Int := Lib.indexByte digB.data.toList c.toNat.toUInt8
theorem ixd_c (c : Int) (w : World) : Calls Tryd.prog 65 #[.string ⟨#[48, 49, 50, 51, 52, 53, 54, 55, 56, 57, 97, 98, 99, 100, 101, 102]⟩, .int .u8 c] w (fun x w' => x = .returned (.int .i64 (ixD c)) ∧ Fram Non w w') := ixb_c digB c w
theorem ixb_rng : ∀ (l : List UInt8) (c : UInt8), -1 ≤ Lib.indexByte l c ∧ Lib.indexByte l c ≤ (l.length : Int) - 1
  | [], c => by simp [Lib.indexByte]
  | b :: l, c => by
    have := ixb_rng l c
    simp only [Lib.indexByte, List.length_cons]
    split
    · omega
    · split <;> omega
theorem ixD_rng (c : Int) : -1 ≤ ixD c ∧ ixD c ≤ 15 := by
  have := ixb_rng digB.data.toList c.toNat.toUInt8
  rw [show (digB.data.toList.length : Int) = 16 from rfl] at this
  unfold ixD; omega
theorem ixD_hex {n : Nat} (h : n < 16) : ixD ((hexD n).toNat : Int) = n := (by decide +kernel : ∀ n : Nat, n < 16 → ixD ((hexD n).toNat : Int) = n) n h
theorem or16 {h l : Int} (h0 : 0 ≤ h ∧ h ≤ 15) (l0 : 0 ≤ l ∧ l ≤ 15) : IntKind.i64.wrap (BitVec.ofInt IntKind.i64.bits (IntKind.i64.wrap (h * 2 ^ (min (4 : Int).toNat IntKind.i64.bits))) ||| BitVec.ofInt IntKind.i64.bits l).toNat = h * 16 + l := by
  obtain ⟨a, rfl⟩ : ∃ a : Nat, h = a := ⟨h.toNat, by omega⟩
  obtain ⟨b, rfl⟩ : ∃ b : Nat, l = b := ⟨l.toNat, by omega⟩
  exact (by decide +kernel : ∀ a : Nat, a < 16 → ∀ b : Nat, b < 16 → IntKind.i64.wrap (BitVec.ofInt IntKind.i64.bits (IntKind.i64.wrap ((a : Int) * 2 ^ (min (4 : Int).toNat IntKind.i64.bits))) ||| BitVec.ofInt IntKind.i64.bits (b : Int)).toNat = (a : Int) * 16 + b) a (by omega) b (by omega)
theorem hex_at : ∀ (l : List UInt8) (j : Nat) (hj : j < l.length), (hexL l)[2 * j]? = some (hexD (l[j].toNat / 16)) ∧ (hexL l)[2 * j + 1]? = some (hexD (l[j].toNat % 16))
  | [], j, hj => absurd hj (by simp)
  | b :: l, 0, _ => by unfold hexL; rw [List.flatMap_cons]; exact ⟨rfl, rfl⟩
  | b :: l, j + 1, hj => by
    have ih := hex_at l j (by simpa using hj)
    unfold hexL at *
    rw [List.flatMap_cons, show 2 * (j + 1) = 2 * j + 1 + 1 from by omega]
    simpa using ih
def UnR (s : ByteArray) (xs : List Int) (ok : Bool) : Prop := ∀ t : ByteArray, t.data.toList ≠ [] → s = ⟨(hexL t.data.toList).toArray⟩ → ok = true ∧ strOf xs = t
def UnI (s : ByteArray) (xs : List Int) : Prop := ∀ t : ByteArray, t.data.toList ≠ [] → s = ⟨(hexL t.data.toList).toArray⟩ → (strOf xs).data.toList = t.data.toList.take xs.length
theorem un_at {s t : ByteArray} {j : Nat} (e : s = ⟨(hexL t.data.toList).toArray⟩) (h : 2 * j < s.size) : ∃ hj : j < t.data.toList.length, ixD (byteAt s ((2 * j : Nat) : Int)) = (t.data.toList[j].toNat / 16 : Nat) ∧ ixD (byteAt s ((2 * j + 1 : Nat) : Int)) = (t.data.toList[j].toNat % 16 : Nat) := by
  have hl : s.data.toList = hexL t.data.toList := by rw [e]
  have hz : s.size = 2 * t.data.toList.length := by rw [size_list, hl, hexL_len]
  have hj : j < t.data.toList.length := by omega
  obtain ⟨h1, h2⟩ := hex_at _ j hj
  have hlt := t.data.toList[j].toNat_lt
  refine ⟨hj, ?_, ?_⟩
  · have : byteAt s ((2 * j : Nat) : Int) = ((hexD (t.data.toList[j].toNat / 16)).toNat : Int) := by
      unfold byteAt
      rw [show ((2 * j : Nat) : Int).toNat = 2 * j from rfl, hl, h1]; rfl
    rw [this]; exact ixD_hex (by omega)
  · have : byteAt s ((2 * j + 1 : Nat) : Int) = ((hexD (t.data.toList[j].toNat % 16)).toNat : Int) := by
      unfold byteAt
      rw [show ((2 * j + 1 : Nat) : Int).toNat = 2 * j + 1 from rfl, hl, h2]; rfl
    rw [this]; exact ixD_hex (by omega)
theorem un_bad {s : ByteArray} {xs : List Int} {i : Int} (hi : i = 2 * (xs.length : Int)) (hlt : i < (s.size : Int)) (hb : ixD (byteAt s i) < 0 ∨ ixD (byteAt s (i + 1)) < 0) : UnR s [] false := by
  intro t ht e
  obtain ⟨hj, h1, h2⟩ := un_at (j := xs.length) e (by omega)
  rw [show i = ((2 * xs.length : Nat) : Int) from by omega] at hb
  rw [show (((2 * xs.length : Nat) : Int) + 1) = ((2 * xs.length + 1 : Nat) : Int) from by omega, h1, h2] at hb
  omega
theorem un_step {s : ByteArray} {xs : List Int} {i z : Int} (hi : i = 2 * (xs.length : Int)) (hlt : i < (s.size : Int)) (h : UnI s xs) (hz : z = ixD (byteAt s i) * 16 + ixD (byteAt s (i + 1))) : UnI s (xs ++ [z]) := by
  intro t ht e
  obtain ⟨hj, h1, h2⟩ := un_at (j := xs.length) e (by omega)
  rw [show i = ((2 * xs.length : Nat) : Int) from by omega, show (((2 * xs.length : Nat) : Int) + 1) = ((2 * xs.length + 1 : Nat) : Int) from by omega, h1, h2] at hz
  rw [strOf_app, h t ht e, List.length_append, List.length_singleton, List.take_succ_eq_append_getElem hj]
  congr 1
  show [UInt8.ofNat z.toNat] = _
  have hlt := t.data.toList[xs.length].toNat_lt
  rw [show z.toNat = t.data.toList[xs.length].toNat from by omega]; simp
theorem un_end {s : ByteArray} {xs : List Int} (hn : (s.size : Int) ≤ 2 * (xs.length : Int)) (h : UnI s xs) : UnR s xs true := by
  intro t ht e
  refine ⟨rfl, ba_ext ?_⟩
  have hz : s.size = 2 * t.data.toList.length := by rw [size_list, e]; simp [hexL_len]
  rw [h t ht e, List.take_of_length_le (by omega)]
theorem un_odd {s : ByteArray} (h : s = ⟨#[]⟩ ∨ ¬ (s.size : Int).tmod 2 = 0) : UnR s [] false := by
  intro t ht e
  have hz : s.size = 2 * t.data.toList.length := by rw [size_list, e]; simp [hexL_len]
  rcases h with h | h
  · rw [h] at hz
    have : t.data.toList.length = 0 := by have : (⟨#[]⟩ : ByteArray).size = 0 := rfl; omega
    exact absurd (List.eq_nil_of_length_eq_zero this) ht
  · exact absurd (by rw [Int.tmod_eq_emod_of_nonneg (by omega)]; omega) h
theorem sc_unwritten (s : ByteArray) (hs : s.size ≤ 1099511627776) (w : World) :
    Calls Tryd.prog 56 #[.string s] w (fun r_ w' => ∃ a n c xs ok, r_ = .returned (.tuple #[.slice a n c, .bool ok]) ∧ (UnR s xs ok ∧ xs.length ≤ s.size) ∧ Hp w Non [Res.own 5 1 (.slice a n c) n (xs.flatMap u8c)] w') := by
  refine calls_of Tryd.func56 rfl 46 rfl (by simp) ?_
  have hp0 := Hp.init w
  have he0 : List.map (env0 [.string s]) [0] = [.string s] := by kernel_rfl
  obtain ⟨b0, he0⟩ := toMk he0
  rw [he0]
  clear he0
  refine WP.seq ?_
  refine WP.pure {} [] [0] [.string s] .nil (by kernel_rfl) (fun b1 => ?_)
  refine thn_n ?_
  refine WP.seq ?_
  refine WP.cut (fun e11 w12 => ∃ (x9 : Bool), (True) ∧ Bp x9 (((s = ⟨#[]⟩)) ∨ ((¬ (s = ⟨#[]⟩)) ∧ (¬ (((s.size : Int).tmod 2) = 0)))) ∧ List.map e11 [0, 15] = [.string s, .bool x9] ∧ Hp w Non [] w12) ?_ ?_
  · refine WP.region _ rfl (by kernel_rfl) ?_
    refine OPS.batch 3 {} [] [0, 10] [.string s, .bool (decide (s = ⟨#[]⟩))] .nil (by kernel_rfl) (fun b3 => ?_)
    by_cases h4 : s = ⟨#[]⟩
    · refine OPS.batch 0 {} [] [0, 10] [.string s, .bool (decide (s = ⟨#[]⟩))] .nil (by kernel_rfl) (fun b5 => ?_)
      refine OPS.re [.string s, .bool true] (by rw [show (decide (s = ⟨#[]⟩)) = true from Bp.dec.tt h4]) ?_
      refine OPS.batch 5 { wraps := [15] } [] [0, 15] [.string s, .bool true] .nil (by kernel_rfl) (fun b6 => ?_)
      refine OPS.nil ?_
      refine thn_n ?_
      exact ⟨true, trivial, Bp.of Bp.t (by first | (simp only [h4, iff_false, false_iff, iff_true, true_iff, Classical.not_not, and_true, true_and, and_false, false_and, or_true, true_or, or_false, false_or, not_true_eq_false, not_false_eq_true, and_self, or_self, iff_self]; done) | (simp [h4]; done) | grind | (simp_all; done)), by kernel_rfl, hp0⟩
    · refine OPS.batch 0 {} [] [0, 10] [.string s, .bool (decide (s = ⟨#[]⟩))] .nil (by kernel_rfl) (fun b7 => ?_)
      refine OPS.re [.string s, .bool false] (by rw [show (decide (s = ⟨#[]⟩)) = false from Bp.dec.ff h4]) ?_
      refine OPS.batch 5 { wraps := [15] } [] [0, 15] [.string s, .bool (decide (¬ (((s.size : Int).tmod 2) = 0)))] (.cons (show (2 : Int) ≠ 0 from by omega) .nil) (by kernel_rfl) (fun b8 => ?_)
      refine OPS.nil ?_
      refine thn_n ?_
      exact ⟨decide (¬ (((s.size : Int).tmod 2) = 0)), trivial, Bp.of Bp.dec (by first | (simp only [h4, iff_false, false_iff, iff_true, true_iff, Classical.not_not, and_true, true_and, and_false, false_and, or_true, true_or, or_false, false_or, not_true_eq_false, not_false_eq_true, and_self, or_self, iff_self]; done) | (simp [h4]; done) | grind | (simp_all; done)), by kernel_rfl, hp0⟩
  rintro e11 w12 ⟨x9, hd14, hb10, hE15, hp13⟩
  obtain ⟨b16, rfl⟩ := toMk hE15
  clear hE15
  clear hd14
  refine WP.test (p := ((s = ⟨#[]⟩)) ∨ ((¬ (s = ⟨#[]⟩)) ∧ (¬ (((s.size : Int).tmod 2) = 0)))) rfl hb10 (fun h17 => ?_) (fun h17 => ?_)
  · refine WP.seq ?_
    refine WP.pure {} [] [2, 3] [.slice none 0 0, .bool false] .nil (by kernel_rfl) (fun b18 => ?_)
    refine thn_n ?_
    refine WP.ret ?_
    refine thn_r ?_
    refine bodyQ.of _ rfl [.slice none 0 0, .bool false] ⟨rfl, rfl, trivial⟩ ?_
    exact ⟨none, 0, 0, [], false, rfl, ⟨un_odd (by have h_ := h17; first | exact h_ | grind), Nat.zero_le _⟩, (hp13.nil.nilOwn 5 1)⟩
  · refine WP.skip ?_
    refine thn_n ?_
    refine WP.seq ?_
    refine WP.pure {} [] [0, 4] [.string s, .slice none 0 0] .nil (by kernel_rfl) (fun b19 => ?_)
    refine thn_n ?_
    refine WP.seq ?_
    refine WP.seq ?_
    refine WP.pure {} [] [0, 4, 5] [.string s, .slice none 0 0, .int .i64 0] .nil (by kernel_rfl) (fun b20 => ?_)
    refine thn_n ?_
    refine WP.block ?_
    have hp21 := (show Hp w Non [Res.own 5 1 (.slice none 0 0) 0 (List.flatMap u8c ([] : List Int))] w12 from hp13.nilOwn 5 1)
    have hev : ((s.size : Int)).tmod 2 = 0 := by have h_ := h17; grind
    rw [Int.tmod_eq_emod_of_nonneg (by omega)] at hev
    refine WP.loop (fun mz_ e22 w23 => ∃ (i : Int) (xs : List Int) (ao : Option Addr) (no : Nat) (co : Nat), mz_ = s.size - xs.length ∧ (i = 2 * (xs.length : Int) ∧ i ≤ (s.size : Int) ∧ UnI s xs) ∧ List.map e22 [0, 4, 5] = [.string s, .slice ao no co, .int .i64 i] ∧ Hp w Non [Res.own 5 1 (.slice ao no co) no (List.flatMap u8c xs)] w23) (s.size - ([]).length) ⟨0, [], none, 0, 0, rfl, ⟨by simp, by omega, fun t ht e => by simp [strOf]⟩, by kernel_rfl, hp21⟩ ?_
    rintro _ e22 w23 ⟨i, xs, ao, no, co, rfl, hI25, hE26, hp24⟩
    obtain ⟨b27, rfl⟩ := toMk hE26
    clear hE26
    obtain ⟨pa, pb, pc⟩ := hI25
    have pe := own_flat (sz := 1) (fun _ => rfl) (by decide) hp24.get0
    have r1 := ixD_rng (byteAt s i)
    have r2 := ixD_rng (byteAt s (i + 1))
    refine WP.seq ?_
    refine WP.seq ?_
    refine WP.pure {} [] [0, 4, 5, 19] [.string s, .slice ao no co, .int .i64 i, .bool (decide (i < (s.size : Int)))] .nil (by kernel_rfl) (fun b28 => ?_)
    refine thn_n ?_
    refine WP.test (p := i < (s.size : Int)) rfl Bp.dec (fun h29 => ?_) (fun h29 => ?_)
    · refine WP.skip ?_
      refine thn_n ?_
      refine WP.seq ?_
      refine WP.block ?_
      refine WP.seq ?_
      have hp32 := hp24.drew
      refine WP.quiet (fun w30 => Hp w Non [Res.own 5 1 (.slice ao no co) no (List.flatMap u8c xs)] w30) (by kernel_rfl) hp32 ?_
      have hnehp32 : ∃ wz_, (fun w30 => Hp w Non [Res.own 5 1 (.slice ao no co) no (List.flatMap u8c xs)] w30) wz_ := ⟨_, hp32⟩
      refine QOPS.batch 3 {} [] [0, 4, 5, 24] [.string s, .slice ao no co, .int .i64 i, .int .u8 (byteAt s (i))] hnehp32 (fun w33 hp34 => QB.mk (.cons (show InB (i) s.size from ⟨by omega, by omega⟩) .nil) (by kernel_rfl)) (fun b35 => ?_)
      refine QOPS.call (some 25) [.string ⟨#[48, 49, 50, 51, 52, 53, 54, 55, 56, 57, 97, 98, 99, 100, 101, 102]⟩, .int .u8 (byteAt s (i))] (by kernel_rfl) (fun w36 hp37 => (ixd_c (byteAt s (i)) _).mono fun _ _ h => ⟨h.1, hp37.step h.2⟩) ?_
      refine QOPS.batch 4 {} [] [0, 4, 5, 25, 29] [.string s, .slice ao no co, .int .i64 i, .int .i64 (ixD (byteAt s (i))), .int .u8 (byteAt s (i + 1))] hnehp32 (fun w38 hp39 => QB.mk (.cons (show Rng .i64 (i + 1) from Rng.i64 (by omega)) (.cons (show InB (i + 1) s.size from ⟨by omega, by omega⟩) .nil)) (by kernel_rfl)) (fun b40 => ?_)
      refine QOPS.call (some 30) [.string ⟨#[48, 49, 50, 51, 52, 53, 54, 55, 56, 57, 97, 98, 99, 100, 101, 102]⟩, .int .u8 (byteAt s (i + 1))] (by kernel_rfl) (fun w41 hp42 => (ixd_c (byteAt s (i + 1)) _).mono fun _ _ h => ⟨h.1, hp42.step h.2⟩) ?_
      refine QOPS.batch 2 {} [] [0, 4, 5, 6, 7] [.string s, .slice ao no co, .int .i64 i, .int .i64 (ixD (byteAt s (i))), .int .i64 (ixD (byteAt s (i + 1)))] hnehp32 (fun w43 hp44 => QB.mk .nil (by kernel_rfl)) (fun b45 => ?_)
      refine QOPS.nil (fun w46 hp47 => ?_)
      refine thn_n ?_
      refine WP.seq ?_
      refine WP.cut (fun e57 w58 => ∃ (x55 : Bool), (True) ∧ Bp x55 ((((ixD (byteAt s (i))) < 0)) ∨ ((¬ ((ixD (byteAt s (i))) < 0)) ∧ ((ixD (byteAt s (i + 1))) < 0))) ∧ List.map e57 [0, 4, 5, 6, 7, 36] = [.string s, .slice ao no co, .int .i64 i, .int .i64 (ixD (byteAt s (i))), .int .i64 (ixD (byteAt s (i + 1))), .bool x55] ∧ Hp w Non [Res.own 5 1 (.slice ao no co) no (List.flatMap u8c xs)] w58) ?_ ?_
      · refine WP.region _ rfl (by kernel_rfl) ?_
        refine OPS.batch 3 {} [] [0, 4, 5, 6, 7, 33] [.string s, .slice ao no co, .int .i64 i, .int .i64 (ixD (byteAt s (i))), .int .i64 (ixD (byteAt s (i + 1))), .bool (decide ((ixD (byteAt s (i))) < 0))] .nil (by kernel_rfl) (fun b49 => ?_)
        by_cases h50 : (ixD (byteAt s (i))) < 0
        · refine OPS.batch 0 {} [] [0, 4, 5, 6, 7, 33] [.string s, .slice ao no co, .int .i64 i, .int .i64 (ixD (byteAt s (i))), .int .i64 (ixD (byteAt s (i + 1))), .bool (decide ((ixD (byteAt s (i))) < 0))] .nil (by kernel_rfl) (fun b51 => ?_)
          refine OPS.re [.string s, .slice ao no co, .int .i64 i, .int .i64 (ixD (byteAt s (i))), .int .i64 (ixD (byteAt s (i + 1))), .bool true] (by rw [show (decide ((ixD (byteAt s (i))) < 0)) = true from Bp.dec.tt h50]) ?_
          refine OPS.batch 3 { wraps := [36] } [] [0, 4, 5, 6, 7, 36] [.string s, .slice ao no co, .int .i64 i, .int .i64 (ixD (byteAt s (i))), .int .i64 (ixD (byteAt s (i + 1))), .bool true] .nil (by kernel_rfl) (fun b52 => ?_)
          refine OPS.nil ?_
          refine thn_n ?_
          exact ⟨true, trivial, Bp.of Bp.t (by first | (simp only [h50, iff_false, false_iff, iff_true, true_iff, Classical.not_not, and_true, true_and, and_false, false_and, or_true, true_or, or_false, false_or, not_true_eq_false, not_false_eq_true, and_self, or_self, iff_self]; done) | (simp [h50]; done) | grind | (simp_all; done)), by kernel_rfl, hp47⟩
        · refine OPS.batch 0 {} [] [0, 4, 5, 6, 7, 33] [.string s, .slice ao no co, .int .i64 i, .int .i64 (ixD (byteAt s (i))), .int .i64 (ixD (byteAt s (i + 1))), .bool (decide ((ixD (byteAt s (i))) < 0))] .nil (by kernel_rfl) (fun b53 => ?_)
          refine OPS.re [.string s, .slice ao no co, .int .i64 i, .int .i64 (ixD (byteAt s (i))), .int .i64 (ixD (byteAt s (i + 1))), .bool false] (by rw [show (decide ((ixD (byteAt s (i))) < 0)) = false from Bp.dec.ff h50]) ?_
          refine OPS.batch 3 { wraps := [36] } [] [0, 4, 5, 6, 7, 36] [.string s, .slice ao no co, .int .i64 i, .int .i64 (ixD (byteAt s (i))), .int .i64 (ixD (byteAt s (i + 1))), .bool (decide ((ixD (byteAt s (i + 1))) < 0))] .nil (by kernel_rfl) (fun b54 => ?_)
          refine OPS.nil ?_
          refine thn_n ?_
          exact ⟨decide ((ixD (byteAt s (i + 1))) < 0), trivial, Bp.of Bp.dec (by first | (simp only [h50, iff_false, false_iff, iff_true, true_iff, Classical.not_not, and_true, true_and, and_false, false_and, or_true, true_or, or_false, false_or, not_true_eq_false, not_false_eq_true, and_self, or_self, iff_self]; done) | (simp [h50]; done) | grind | (simp_all; done)), by kernel_rfl, hp47⟩
      rintro e57 w58 ⟨x55, hd60, hb56, hE61, hp59⟩
      obtain ⟨b62, rfl⟩ := toMk hE61
      clear hE61
      clear hd60
      refine WP.test (p := (((ixD (byteAt s (i))) < 0)) ∨ ((¬ ((ixD (byteAt s (i))) < 0)) ∧ ((ixD (byteAt s (i + 1))) < 0))) rfl hb56 (fun h63 => ?_) (fun h63 => ?_)
      · refine WP.seq ?_
        refine WP.pure {} [] [2, 3] [.slice none 0 0, .bool false] .nil (by kernel_rfl) (fun b64 => ?_)
        refine thn_n ?_
        refine WP.ret ?_
        refine thn_r ?_
        refine blk_r ?_
        refine thn_r ?_
        refine thn_r ?_
        refine blk_r ?_
        refine thn_r ?_
        refine bodyQ.of _ rfl [.slice none 0 0, .bool false] ⟨rfl, rfl, trivial⟩ ?_
        exact ⟨none, 0, 0, [], false, rfl, ⟨un_bad pa (by omega) (by have h_ := h63; first | exact h_ | (simp_all; done) | grind), Nat.zero_le _⟩, (hp59.nil.nilOwn 5 1)⟩
      · refine WP.skip ?_
        refine thn_n ?_
        have hg : 0 ≤ ixD (byteAt s i) ∧ 0 ≤ ixD (byteAt s (i + 1)) := by have h_ := h63; omega
        have hor := or16 (h := ixD (byteAt s i)) (l := ixD (byteAt s (i + 1))) (by omega) (by omega)
        refine WP.region _ rfl (by kernel_rfl) ?_
        refine OPS.batch 6 { wraps := [39] } [] [0, 5, 37, 42] [.string s, .int .i64 i, .slice ao no co, .int .u8 (IntKind.i64.wrap (BitVec.ofInt IntKind.i64.bits (IntKind.i64.wrap ((ixD (byteAt s (i))) * 2 ^ (min (4 : Int).toNat IntKind.i64.bits))) ||| BitVec.ofInt IntKind.i64.bits (ixD (byteAt s (i + 1)))).toNat)] (.cons (show (0 : Int) ≤ 4 from by omega) (.cons (show Rng .u8 (IntKind.i64.wrap (BitVec.ofInt IntKind.i64.bits (IntKind.i64.wrap ((ixD (byteAt s (i))) * 2 ^ (min (4 : Int).toNat IntKind.i64.bits))) ||| BitVec.ofInt IntKind.i64.bits (ixD (byteAt s (i + 1)))).toNat) from Rng.u8 (by omega)) .nil)) (by kernel_rfl) (fun b65 => ?_)
        refine OPS.cons (opStep.buildSlice (E := 5) hp59 [.int .u8 (IntKind.i64.wrap (BitVec.ofInt IntKind.i64.bits (IntKind.i64.wrap ((ixD (byteAt s (i))) * 2 ^ (min (4 : Int).toNat IntKind.i64.bits))) ||| BitVec.ofInt IntKind.i64.bits (ixD (byteAt s (i + 1)))).toNat)] (by kernel_rfl) (fun g68 w66 hp67 => ?_))
        refine OPS.cons (opStep.append1 [.int .u8 (IntKind.i64.wrap (BitVec.ofInt IntKind.i64.bits (IntKind.i64.wrap ((ixD (byteAt s (i))) * 2 ^ (min (4 : Int).toNat IntKind.i64.bits))) ||| BitVec.ofInt IntKind.i64.bits (ixD (byteAt s (i + 1)))).toNat)] hp67 1 (by kernel_rfl) rfl rfl rfl (SlR.row (n := 1) hp67.get0 rfl).rd (List.all_eq_true.1 (by kernel_rfl)) (by decide) (by omega) (by omega) (fun a71 c72 w73 hp74 hn75 => ?_))
        rw [(show List.flatMap u8c xs ++ [.int .u8 (IntKind.i64.wrap (BitVec.ofInt IntKind.i64.bits (IntKind.i64.wrap ((ixD (byteAt s (i))) * 2 ^ (min (4 : Int).toNat IntKind.i64.bits))) ||| BitVec.ofInt IntKind.i64.bits (ixD (byteAt s (i + 1)))).toNat)] = List.flatMap u8c (xs ++ [IntKind.i64.wrap (BitVec.ofInt IntKind.i64.bits (IntKind.i64.wrap ((ixD (byteAt s (i))) * 2 ^ (min (4 : Int).toNat IntKind.i64.bits))) ||| BitVec.ofInt IntKind.i64.bits (ixD (byteAt s (i + 1)))).toNat]) from (List.flatMap_append (xs := xs) (ys := [IntKind.i64.wrap (BitVec.ofInt IntKind.i64.bits (IntKind.i64.wrap ((ixD (byteAt s (i))) * 2 ^ (min (4 : Int).toNat IntKind.i64.bits))) ||| BitVec.ofInt IntKind.i64.bits (ixD (byteAt s (i + 1)))).toNat])).symm)] at hp74
        refine OPS.batch 1 {} [] [0, 4, 5] [.string s, .slice a71 (no + 1) c72, .int .i64 i] .nil (by kernel_rfl) (fun b76 => ?_)
        refine OPS.nil ?_
        refine blk_n ?_
        refine thn_n ?_
        refine WP.pure {} [] [0, 4, 5] [.string s, .slice a71 (no + 1) c72, .int .i64 (i + 2)] (.cons (show Rng .i64 (i + 2) from Rng.i64 (by omega)) .nil) (by kernel_rfl) (fun b77 => ?_)
        refine thn_n ?_
        exact ⟨s.size - (xs ++ [IntKind.i64.wrap (BitVec.ofInt IntKind.i64.bits (IntKind.i64.wrap ((ixD (byteAt s (i))) * 2 ^ (min (4 : Int).toNat IntKind.i64.bits))) ||| BitVec.ofInt IntKind.i64.bits (ixD (byteAt s (i + 1)))).toNat]).length, (by rw [List.length_append, List.length_singleton]; omega), (i + 2), xs ++ [IntKind.i64.wrap (BitVec.ofInt IntKind.i64.bits (IntKind.i64.wrap ((ixD (byteAt s (i))) * 2 ^ (min (4 : Int).toNat IntKind.i64.bits))) ||| BitVec.ofInt IntKind.i64.bits (ixD (byteAt s (i + 1)))).toNat], a71, no + 1, c72, rfl, ⟨by rw [List.length_append, List.length_singleton]; omega, by omega, un_step pa (by omega) pc hor⟩, by kernel_rfl, (hp74.sub (.cons _ (.cons_cons _ (.slnil))))⟩
    · refine WP.exit ?_
      refine thn_x ?_
      refine thn_x ?_
      refine blk_hit ?_
      refine thn_n ?_
      refine WP.seq ?_
      refine WP.pure {} [] [2, 3] [.slice ao no co, .bool true] .nil (by kernel_rfl) (fun b78 => ?_)
      refine thn_n ?_
      refine WP.ret ?_
      refine bodyQ.of _ rfl [.slice ao no co, .bool true] ⟨rfl, rfl, trivial⟩ ?_
      exact ⟨ao, no, co, xs, true, rfl, ⟨un_end (by omega) pc, by omega⟩, hp24⟩

end Go.Proofs.YtbpedjefoajegaaDoor.K
