/- The walks of ScrE: what each function computes. -/
import Derived.Test.YtbpedjefoajegaaDoorProg
import Derived.Test.YtbpedjefoajegaaDoorCoreO
import Derived.Test.YtbpedjefoajegaaDoorScrD
namespace Go.Proofs.YtbpedjefoajegaaDoor.K
open Go Go.Proofs Go.RowKit
set_option linter.unusedVariables false
set_option linter.unusedSimpArgs false
set_option maxRecDepth 20000
set_option maxHeartbeats 4000000

noncomputable def lineV (x : StepP) : ByteArray := if chkI x = 0 then lineS x else ⟨#[]⟩
theorem lineV_ok {x : StepP} (h : okS x) : lineV x = lineS x := by unfold lineV; rw [if_pos (chk_0 h)]
theorem lineV_no {x : StepP} (h : ¬ chkI x = 0) : lineV x = ⟨#[]⟩ := by unfold lineV; rw [if_neg h]
/-- What is asked of a step's size. -/
def smS (x : StepP) : Prop := inS x ∧ x.Key.size ≤ 1099511627776 ∧ x.Value.size ≤ 1099511627776 ∧ x.L.length ≤ 1099511627776
theorem lens_le {M : Nat} : ∀ (ws : List (List UInt8)), (∀ x ∈ ws, x.length ≤ M) → Lib.lens ws ≤ M * ws.length
  | [], _ => by simp [Lib.lens]
  | x :: r, h => by
    have ih := lens_le r fun y hy => h y (by simp [hy])
    have := h x (by simp)
    simp only [Lib.lens, List.map_cons, List.sum_cons, List.length_cons] at ih ⊢
    rw [Nat.mul_add]; omega
theorem joinB_size {ws : List ByteArray} {M : Nat} (h : ∀ x ∈ ws, x.size ≤ M) : (joinB ws).size ≤ (M + 1) * ws.length := by
  rw [size_list]; unfold joinB; rw [List.toList_toArray]
  cases ws with
  | nil => simp [Lib.join_nil]
  | cons x r =>
    rw [List.map_cons, Lib.join_length]
    have := lens_le ((x :: r).map (·.data.toList)) fun y hy => by
      obtain ⟨z, hz, rfl⟩ := List.mem_map.1 hy
      have := h z hz
      rwa [size_list] at this
    rw [List.length_map, List.map_cons] at this
    simp only [List.length_cons, List.length_nil, List.length_map] at *
    have e := Nat.add_mul M 1 (r.length + 1)
    omega
theorem itoa_le {n : Int} (h : inI n) : (itoaT n).size ≤ 21 := itoaT_size h.1 h.2
theorem hexT_size (b : ByteArray) : (hexT b).size ≤ 2 * b.size + 1 := by
  unfold hexT
  split
  · show 1 ≤ _; omega
  · rw [size_list, List.toList_toArray, hexL_len, ← size_list]; omega
theorem word_size (k : Int) : (kWord k).size ≤ 8 := by
  by_cases h : 1 ≤ k ∧ k ≤ 16
  · rcases kcases h with rfl | rfl | rfl | rfl | rfl | rfl | rfl | rfl | rfl | rfl | rfl | rfl | rfl | rfl | rfl | rfl <;> decide +kernel
  · unfold kWord
    rw [if_neg (by omega), if_neg (by omega), if_neg (by omega), if_neg (by omega), if_neg (by omega), if_neg (by omega), if_neg (by omega), if_neg (by omega), if_neg (by omega), if_neg (by omega), if_neg (by omega), if_neg (by omega), if_neg (by omega), if_neg (by omega), if_neg (by omega), if_neg (by omega)]
    decide
theorem join_sum : ∀ (ws : List ByteArray), (joinB ws).size ≤ (ws.map fun y => y.size + 1).sum
  | [] => by simp [joinB, Lib.join_nil]; rfl
  | [x] => by rw [joinB_one]; simp
  | x :: y :: r => by
    have ih := join_sum (y :: r)
    rw [joinB_cons, ByteArray.size_append, ByteArray.size_append, List.map_cons, List.sum_cons, show spL.size = 1 from rfl]
    omega
theorem sum_le {M : Nat} : ∀ (l : List Int), (∀ n ∈ l, (itoaT n).size ≤ M) → ((l.map itoaT).map fun y => y.size + 1).sum ≤ (M + 1) * l.length
  | [], _ => by simp
  | n :: l, h => by
    have ih := sum_le l fun y hy => h y (by simp [hy])
    have := h n (by simp)
    simp only [List.map_cons, List.sum_cons, List.length_cons]
    rw [Nat.mul_add]; omega
theorem line_size {x : StepP} (h : smS x) : (lineS x).size ≤ 2 * x.Key.size + 2 * x.Value.size + 22 * x.L.length + 60 := by
  have h1 := join_sum (wordsS x)
  have h2 := sum_le x.L fun n hn => itoa_le (h.1.2.2 n hn)
  have hk := hexT_size x.Key
  have hv := hexT_size x.Value
  have hw := word_size x.Kind
  have ha := itoa_le h.1.1
  have hb := itoa_le h.1.2.1
  have one : ∀ (c : Bool) (y : ByteArray), (((if c = true then [y] else []) : List ByteArray).map fun y => y.size + 1).sum ≤ y.size + 1 := fun c y => by cases c <;> simp
  have a := one (kA x.Kind) (itoaT x.A)
  have b := one (kB x.Kind) (itoaT x.B)
  have c := one (kK x.Kind) (hexT x.Key)
  have d := one (kV x.Kind) (hexT x.Value)
  unfold lineS
  refine Nat.le_trans h1 ?_
  unfold wordsS
  simp only [List.map_cons, List.map_append, List.sum_cons, List.sum_append]
  omega
theorem words_le {x : StepP} (h : smS x) : ∀ y ∈ wordsS x, y.size ≤ 2 * x.Key.size + 2 * x.Value.size + 21 := by
  intro y hy
  unfold wordsS at hy
  simp only [List.mem_cons, List.mem_append, List.mem_map] at hy
  have hk := hexT_size x.Key
  have hv := hexT_size x.Value
  have hw := word_size x.Kind
  rcases hy with rfl | hy | hy | hy | hy | ⟨n, hn, rfl⟩
  · omega
  · split at hy
    · rw [List.mem_singleton] at hy; subst hy; have := itoa_le h.1.1; omega
    · cases hy
  · split at hy
    · rw [List.mem_singleton] at hy; subst hy; have := itoa_le h.1.2.1; omega
    · cases hy
  · split at hy
    · rw [List.mem_singleton] at hy; subst hy; omega
    · cases hy
  · split at hy
    · rw [List.mem_singleton] at hy; subst hy; omega
    · cases hy
  · have := itoa_le (h.1.2.2 n hn); omega
theorem words_len (x : StepP) : 1 ≤ (wordsS x).length ∧ (wordsS x).length ≤ x.L.length + 5 := by
  unfold wordsS
  simp only [List.length_cons, List.length_append, List.length_map]
  constructor
  · omega
  · have h1 : ∀ (c : Bool) (y : ByteArray), (if c = true then [y] else []).length ≤ 1 := fun c y => by cases c <;> simp
    have a := h1 (kA x.Kind) (itoaT x.A)
    have b := h1 (kB x.Kind) (itoaT x.B)
    have c := h1 (kK x.Kind) (hexT x.Key)
    have d := h1 (kV x.Kind) (hexT x.Value)
    omega
theorem ln_kno (K : Int) (hk : ¬ (1 ≤ K ∧ K ≤ 16)) (A B : Int) (Ky : ByteArray) (V L : SlH) (l : List Int) (w : World) (hl : LibS w) (hx : StR w Tr ⟨K, A, B, Ky, V, L⟩ ⟨K, A, B, Ky, valAt w V, l⟩) :
    Calls Tryd.prog 12 #[GStep.val (⟨K, A, B, Ky, V, L⟩ : GStep)] w (fun r_ w' => r_ = .returned (.tuple #[.string (lineV ⟨K, A, B, Ky, valAt w V, l⟩), .int .i64 (chkI ⟨K, A, B, Ky, valAt w V, l⟩)]) ∧ Fram Non w w') := by
  refine calls_of Tryd.func12 rfl 69 rfl (by simp) ?_
  have hp0 := Hp.init w
  have he0 : List.map (env0 [GStep.val (⟨K, A, B, Ky, V, L⟩ : GStep)]) [0] = [GStep.val (⟨K, A, B, Ky, V, L⟩ : GStep)] := by kernel_rfl
  obtain ⟨b0, he0⟩ := toMk he0
  rw [he0]
  clear he0
  refine WP.seq ?_
  refine WP.region _ rfl (by kernel_rfl) ?_
  refine OPS.cons (opStep.box hp0 [.int .i64 K, .int .i64 A, .int .i64 B, .string Ky, .slice V.a V.n V.c, .slice L.a L.n L.c] (by kernel_rfl) (fun g3 w1 hp2 => ?_))
  refine OPS.batch 2 {} [] [1] [.pointer (some ⟨g3, 0, none⟩)] .nil (by kernel_rfl) (fun b4 => ?_)
  refine OPS.nil ?_
  refine thn_n ?_
  refine WP.seq ?_
  refine WP.seq ?_
  refine WP.region _ rfl (by kernel_rfl) ?_
  refine OPS.batch 1 {} [GStep.val (⟨K, A, B, Ky, V, L⟩ : GStep)] [1, 9] [.pointer (some ⟨g3, 0, none⟩), GStep.val (⟨K, A, B, Ky, V, L⟩ : GStep)] (.cons (show Ld Tryd.prog w1 31 ⟨g3, 0, none⟩ (GStep.val (⟨K, A, B, Ky, V, L⟩ : GStep)) from Ld.rowN (cs := [.int .i64 K, .int .i64 A, .int .i64 B, .string Ky, .slice V.a V.n V.c, .slice L.a L.n L.c]) hp2.get0 (by kernel_rfl)) .nil) (by kernel_rfl) (fun b5 => ?_)
  refine OPS.cons (opStep.call (some 10) [GStep.val (⟨K, A, B, Ky, V, L⟩ : GStep)] (by kernel_rfl) (sc_Check _ (⟨K, A, B, Ky, valAt w V, l⟩ : StepP) _ (hl.fram hp2.fr) (hx.fram hp2.fr)) ?_)
  rintro _ w8 ⟨rfl, hf9⟩
  refine ⟨_, rfl, ?_⟩
  have hp10 := hp2.step hf9
  refine OPS.batch 1 {} [] [1, 4] [.pointer (some ⟨g3, 0, none⟩), .int .i64 (chkI (⟨K, A, B, Ky, valAt w V, l⟩ : StepP))] .nil (by kernel_rfl) (fun b11 => ?_)
  refine OPS.nil ?_
  refine thn_n ?_
  refine WP.seq ?_
  refine WP.pure {} [] [1, 4, 12] [.pointer (some ⟨g3, 0, none⟩), .int .i64 (chkI (⟨K, A, B, Ky, valAt w V, l⟩ : StepP)), .bool (decide (¬ ((chkI (⟨K, A, B, Ky, valAt w V, l⟩ : StepP)) = 0)))] .nil (by kernel_rfl) (fun b12 => ?_)
  refine thn_n ?_
  refine WP.test (p := ¬ ((chkI (⟨K, A, B, Ky, valAt w V, l⟩ : StepP)) = 0)) rfl Bp.dec (fun h13 => ?_) (fun h13 => ?_)
  · refine WP.seq ?_
    refine WP.pure {} [] [2, 3] [.string ⟨#[]⟩, .int .i64 (chkI (⟨K, A, B, Ky, valAt w V, l⟩ : StepP))] .nil (by kernel_rfl) (fun b14 => ?_)
    refine thn_n ?_
    refine WP.ret ?_
    refine thn_r ?_
    refine bodyQ.of _ rfl [.string ⟨#[]⟩, .int .i64 (chkI (⟨K, A, B, Ky, valAt w V, l⟩ : StepP))] ⟨rfl, rfl, trivial⟩ ?_
    exact ⟨by simp only [pack]; rw [lineV_no h13], hp10.fr⟩
  · replace h13 := Classical.not_not.1 h13
    refine WP.skip ?_
    refine thn_n ?_
    refine WP.seq ?_
    exact absurd (chk_32 (x := ⟨K, A, B, Ky, valAt w V, l⟩) hk) (by have h_ := h13; omega)

theorem ln_k1 (A B : Int) (Ky : ByteArray) (V L : SlH) (l : List Int) (w : World) (hl : LibS w) (hx : StR w Tr ⟨1, A, B, Ky, V, L⟩ ⟨1, A, B, Ky, valAt w V, l⟩) (hs : smS ⟨1, A, B, Ky, valAt w V, l⟩) :
    Calls Tryd.prog 12 #[GStep.val (⟨1, A, B, Ky, V, L⟩ : GStep)] w (fun r_ w' => r_ = .returned (.tuple #[.string (lineV ⟨1, A, B, Ky, valAt w V, l⟩), .int .i64 (chkI ⟨1, A, B, Ky, valAt w V, l⟩)]) ∧ Fram Non w w') := by
  have hvb := hx.vb
  have hn := hx.ln
  have hL := hx.lr
  simp only at hvb hn hL
  have hi := hs.1
  have hA := hi.1
  have hB := hi.2.1
  unfold inI at hA hB
  have hsz1 := hs.2.1
  have hsz2 := hs.2.2.1
  have hsz3 := hs.2.2.2
  simp only at hA hB hsz1 hsz2 hsz3
  have hjz : (lineS ⟨1, A, B, Ky, valAt w V, l⟩).size ≤ 140737488355328 := by have h_ := line_size hs; simp only at h_; omega
  refine calls_of Tryd.func12 rfl 69 rfl (by simp) ?_
  have hp0 := Hp.init w
  have he0 : List.map (env0 [GStep.val (⟨1, A, B, Ky, V, L⟩ : GStep)]) [0] = [GStep.val (⟨1, A, B, Ky, V, L⟩ : GStep)] := by kernel_rfl
  obtain ⟨b0, he0⟩ := toMk he0
  rw [he0]
  clear he0
  refine WP.seq ?_
  refine WP.region _ rfl (by kernel_rfl) ?_
  refine OPS.cons (opStep.box hp0 [.int .i64 1, .int .i64 A, .int .i64 B, .string Ky, .slice V.a V.n V.c, .slice L.a L.n L.c] (by kernel_rfl) (fun g3 w1 hp2 => ?_))
  refine OPS.batch 2 {} [] [1] [.pointer (some ⟨g3, 0, none⟩)] .nil (by kernel_rfl) (fun b4 => ?_)
  refine OPS.nil ?_
  refine thn_n ?_
  refine WP.seq ?_
  refine WP.seq ?_
  refine WP.region _ rfl (by kernel_rfl) ?_
  refine OPS.batch 1 {} [GStep.val (⟨1, A, B, Ky, V, L⟩ : GStep)] [1, 9] [.pointer (some ⟨g3, 0, none⟩), GStep.val (⟨1, A, B, Ky, V, L⟩ : GStep)] (.cons (show Ld Tryd.prog w1 31 ⟨g3, 0, none⟩ (GStep.val (⟨1, A, B, Ky, V, L⟩ : GStep)) from Ld.rowN (cs := [.int .i64 1, .int .i64 A, .int .i64 B, .string Ky, .slice V.a V.n V.c, .slice L.a L.n L.c]) hp2.get0 (by kernel_rfl)) .nil) (by kernel_rfl) (fun b5 => ?_)
  refine OPS.cons (opStep.call (some 10) [GStep.val (⟨1, A, B, Ky, V, L⟩ : GStep)] (by kernel_rfl) (sc_Check _ (⟨1, A, B, Ky, valAt w V, l⟩ : StepP) _ (hl.fram hp2.fr) (hx.fram hp2.fr)) ?_)
  rintro _ w8 ⟨rfl, hf9⟩
  refine ⟨_, rfl, ?_⟩
  have hp10 := hp2.step hf9
  refine OPS.batch 1 {} [] [1, 4] [.pointer (some ⟨g3, 0, none⟩), .int .i64 (chkI (⟨1, A, B, Ky, valAt w V, l⟩ : StepP))] .nil (by kernel_rfl) (fun b11 => ?_)
  refine OPS.nil ?_
  refine thn_n ?_
  refine WP.seq ?_
  refine WP.pure {} [] [1, 4, 12] [.pointer (some ⟨g3, 0, none⟩), .int .i64 (chkI (⟨1, A, B, Ky, valAt w V, l⟩ : StepP)), .bool (decide (¬ ((chkI (⟨1, A, B, Ky, valAt w V, l⟩ : StepP)) = 0)))] .nil (by kernel_rfl) (fun b12 => ?_)
  refine thn_n ?_
  refine WP.test (p := ¬ ((chkI (⟨1, A, B, Ky, valAt w V, l⟩ : StepP)) = 0)) rfl Bp.dec (fun h13 => ?_) (fun h13 => ?_)
  · refine WP.seq ?_
    refine WP.pure {} [] [2, 3] [.string ⟨#[]⟩, .int .i64 (chkI (⟨1, A, B, Ky, valAt w V, l⟩ : StepP))] .nil (by kernel_rfl) (fun b14 => ?_)
    refine thn_n ?_
    refine WP.ret ?_
    refine thn_r ?_
    refine bodyQ.of _ rfl [.string ⟨#[]⟩, .int .i64 (chkI (⟨1, A, B, Ky, valAt w V, l⟩ : StepP))] ⟨rfl, rfl, trivial⟩ ?_
    exact ⟨by simp only [pack]; rw [lineV_no h13], hp10.fr⟩
  · replace h13 := Classical.not_not.1 h13
    refine WP.skip ?_
    refine thn_n ?_
    refine WP.seq ?_
    refine WP.region _ rfl (by kernel_rfl) ?_
    refine OPS.batch 4 {} [.int .i64 1, .agg #[.string ⟨#[112, 117, 116]⟩, .bool true, .bool false, .bool true, .bool true, .bool false, .bool false]] [1, 17] [.pointer (some ⟨g3, 0, none⟩), .agg #[.string ⟨#[112, 117, 116]⟩, .bool true, .bool false, .bool true, .bool true, .bool false, .bool false]] (.cons (Ld.row1 (P := Tryd.prog) (t := 3) (o := 0) (v := .int .i64 1) hp10.get0 (by kernel_rfl)) (.cons (show InB (1) (17) from ⟨by omega, by omega⟩) (.cons (show Ld Tryd.prog w8 56 ⟨0, 7, none⟩ (.agg #[.string ⟨#[112, 117, 116]⟩, .bool true, .bool false, .bool true, .bool true, .bool false, .bool false]) from Ld.rowN (cs := [.string ⟨#[112, 117, 116]⟩, .bool true, .bool false, .bool true, .bool true, .bool false, .bool false]) (row_at hl.tab hp10.fr) (by kernel_rfl)) .nil))) (by kernel_rfl) (fun b15 => ?_)
    refine OPS.cons (opStep.alloc hp10 [.string ByteArray.empty, .bool false, .bool false, .bool false, .bool false, .bool false, .bool false] (by kernel_rfl) (fun g18 w16 hp17 => ?_))
    refine OPS.cons (opStep.store0 hp17 rfl [.string ⟨#[112, 117, 116]⟩, .bool true, .bool false, .bool true, .bool true, .bool false, .bool false] [.string ⟨#[112, 117, 116]⟩, .bool true, .bool false, .bool true, .bool true, .bool false, .bool false] (by kernel_rfl) (fun w19 hp20 => ?_))
    refine OPS.nil ?_
    refine thn_n ?_
    refine WP.seq ?_
    refine WP.region _ rfl (by kernel_rfl) ?_
    refine OPS.batch 2 {} [.string ⟨#[112, 117, 116]⟩] [1, 5, 19] [.pointer (some ⟨g3, 0, none⟩), .pointer (some ⟨g18, 0, none⟩), .string ⟨#[112, 117, 116]⟩] (.cons (Ld.row1 (P := Tryd.prog) (t := 9) (o := 0) (v := .string ⟨#[112, 117, 116]⟩) hp20.get0 (by kernel_rfl)) .nil) (by kernel_rfl) (fun b21 => ?_)
    refine OPS.cons (opStep.buildSlice (E := 9) hp20 [.string ⟨#[112, 117, 116]⟩] (by kernel_rfl) (fun g24 w22 hp23 => ?_))
    refine OPS.batch 1 {} [] [1, 5, 6] [.pointer (some ⟨g3, 0, none⟩), .pointer (some ⟨g18, 0, none⟩), .slice (some ⟨g24, 0, none⟩) 1 1] .nil (by kernel_rfl) (fun b25 => ?_)
    refine OPS.nil ?_
    refine thn_n ?_
    refine WP.seq ?_
    refine WP.seq ?_
    refine WP.pure {} [.bool true] [1, 5, 6, 22] [.pointer (some ⟨g3, 0, none⟩), .pointer (some ⟨g18, 0, none⟩), .slice (some ⟨g24, 0, none⟩) 1 1, .bool true] (.cons (Ld.row1 (P := Tryd.prog) (t := 4) (o := 1) (v := .bool true) hp23.get1 (by kernel_rfl)) .nil) (by kernel_rfl) (fun b26 => ?_)
    refine thn_n ?_
    refine WP.condT rfl ?_
    refine WP.region _ rfl (by kernel_rfl) ?_
    refine OPS.batch 3 {} [.int .i64 A] [1, 5, 23, 25] [.pointer (some ⟨g3, 0, none⟩), .pointer (some ⟨g18, 0, none⟩), .slice (some ⟨g24, 0, none⟩) 1 1, .int .i64 A] (.cons (Ld.row1 (P := Tryd.prog) (t := 3) (o := 1) (v := .int .i64 A) hp23.get2 (by kernel_rfl)) .nil) (by kernel_rfl) (fun b27 => ?_)
    refine OPS.cons (opStep.call (some 26) [.int .i64 A] (by kernel_rfl) (itoa_c A (by omega) (by omega) _ (hl.lib.fram hp23.fr)) ?_)
    rintro _ w30 ⟨rfl, hf31⟩
    refine ⟨_, rfl, ?_⟩
    have hp32 := hp23.step hf31
    refine OPS.cons (opStep.buildSlice (E := 9) hp32 [.string (itoaT A)] (by kernel_rfl) (fun g35 w33 hp34 => ?_))
    have hp38 := hp34.pull1
    have hp39 := (show Hp w Non [Res.own 9 1 (.slice (some ⟨g24, 0, none⟩) 1 1) 1 (List.flatMap strc [⟨#[112, 117, 116]⟩]), Res.row g35 [.string (itoaT A)] 9, Res.row g18 [.string ⟨#[112, 117, 116]⟩, .bool true, .bool false, .bool true, .bool true, .bool false, .bool false] 56, Res.row g3 [.int .i64 1, .int .i64 A, .int .i64 B, .string Ky, .slice V.a V.n V.c, .slice L.a L.n L.c] 31] w33 from hp38.rowOwnN (sz := 1) (n := 1) rfl (by decide))
    refine OPS.cons (opStep.append0 [.string (itoaT A)] hp39 16 (by kernel_rfl) rfl rfl rfl (SlR.row (n := 1) hp39.get1 rfl).rd (List.all_eq_true.1 (by kernel_rfl)) (by decide) (by omega) (by omega) (fun a40 c41 w42 hp43 hn44 => ?_))
    rw [(show List.flatMap strc [⟨#[112, 117, 116]⟩] ++ [.string (itoaT A)] = List.flatMap strc ([⟨#[112, 117, 116]⟩] ++ [itoaT A]) from (List.flatMap_append (xs := [⟨#[112, 117, 116]⟩]) (ys := [itoaT A])).symm)] at hp43
    refine OPS.batch 1 {} [] [1, 5, 6] [.pointer (some ⟨g3, 0, none⟩), .pointer (some ⟨g18, 0, none⟩), .slice a40 (1 + 1) c41] .nil (by kernel_rfl) (fun b45 => ?_)
    refine OPS.nil ?_
    refine thn_n ?_
    refine WP.seq ?_
    refine WP.seq ?_
    refine WP.pure {} [.bool false] [1, 5, 6, 30] [.pointer (some ⟨g3, 0, none⟩), .pointer (some ⟨g18, 0, none⟩), .slice a40 (1 + 1) c41, .bool false] (.cons (Ld.row1 (P := Tryd.prog) (t := 4) (o := 2) (v := .bool false) hp43.get2 (by kernel_rfl)) .nil) (by kernel_rfl) (fun b46 => ?_)
    refine thn_n ?_
    refine WP.condF rfl ?_
    refine WP.skip ?_
    refine thn_n ?_
    refine WP.seq ?_
    refine WP.seq ?_
    refine WP.pure {} [.bool true] [1, 5, 6, 38] [.pointer (some ⟨g3, 0, none⟩), .pointer (some ⟨g18, 0, none⟩), .slice a40 (1 + 1) c41, .bool true] (.cons (Ld.row1 (P := Tryd.prog) (t := 4) (o := 3) (v := .bool true) hp43.get2 (by kernel_rfl)) .nil) (by kernel_rfl) (fun b47 => ?_)
    refine thn_n ?_
    refine WP.condT rfl ?_
    refine WP.region _ rfl (by kernel_rfl) ?_
    refine OPS.batch 3 {} [.string Ky] [1, 5, 39, 41] [.pointer (some ⟨g3, 0, none⟩), .pointer (some ⟨g18, 0, none⟩), .slice a40 (1 + 1) c41, .string Ky] (.cons (Ld.row1 (P := Tryd.prog) (t := 9) (o := 3) (v := .string Ky) hp43.get3 (by kernel_rfl)) .nil) (by kernel_rfl) (fun b48 => ?_)
    refine OPS.cons (opStep.call (some 42) [.string Ky] (by kernel_rfl) (sc_written Ky (by omega) _) ?_)
    rintro _ w51 ⟨rfl, hf52⟩
    refine ⟨_, rfl, ?_⟩
    have hp53 := hp43.step hf52
    refine OPS.cons (opStep.buildSlice (E := 9) hp53 [.string (hexT Ky)] (by kernel_rfl) (fun g56 w54 hp55 => ?_))
    refine OPS.cons (opStep.append1 [.string (hexT Ky)] hp55 16 (by kernel_rfl) rfl rfl rfl (SlR.row (n := 1) hp55.get0 rfl).rd (List.all_eq_true.1 (by kernel_rfl)) (by decide) (by omega) (by omega) (fun a59 c60 w61 hp62 hn63 => ?_))
    rw [(show List.flatMap strc ([⟨#[112, 117, 116]⟩] ++ [itoaT A]) ++ [.string (hexT Ky)] = List.flatMap strc (([⟨#[112, 117, 116]⟩] ++ [itoaT A]) ++ [hexT Ky]) from (List.flatMap_append (xs := [⟨#[112, 117, 116]⟩] ++ [itoaT A]) (ys := [hexT Ky])).symm)] at hp62
    refine OPS.batch 1 {} [] [1, 5, 6] [.pointer (some ⟨g3, 0, none⟩), .pointer (some ⟨g18, 0, none⟩), .slice a59 (1 + 1 + 1) c60] .nil (by kernel_rfl) (fun b64 => ?_)
    refine OPS.nil ?_
    refine thn_n ?_
    refine WP.seq ?_
    refine WP.seq ?_
    refine WP.pure {} [.bool true] [1, 6, 46] [.pointer (some ⟨g3, 0, none⟩), .slice a59 (1 + 1 + 1) c60, .bool true] (.cons (Ld.row1 (P := Tryd.prog) (t := 4) (o := 4) (v := .bool true) hp62.get3 (by kernel_rfl)) .nil) (by kernel_rfl) (fun b65 => ?_)
    refine thn_n ?_
    refine WP.condT rfl ?_
    refine WP.region _ rfl (by kernel_rfl) ?_
    refine OPS.batch 4 {} [.slice V.a V.n V.c, .string (valAt w V)] [1, 47, 50] [.pointer (some ⟨g3, 0, none⟩), .slice a59 (1 + 1 + 1) c60, .string (valAt w V)] (.cons (Ld.row1 (P := Tryd.prog) (t := 28) (o := 4) (v := .slice V.a V.n V.c) hp62.get4 (by kernel_rfl)) (.cons (VB.bs (P := Tryd.prog) hvb hp62) .nil)) (by kernel_rfl) (fun b66 => ?_)
    refine OPS.cons (opStep.call (some 51) [.string (valAt w V)] (by kernel_rfl) (sc_written (valAt w V) (by omega) _) ?_)
    rintro _ w69 ⟨rfl, hf70⟩
    refine ⟨_, rfl, ?_⟩
    have hp71 := hp62.step hf70
    refine OPS.cons (opStep.buildSlice (E := 9) hp71 [.string (hexT (valAt w V))] (by kernel_rfl) (fun g74 w72 hp73 => ?_))
    refine OPS.cons (opStep.append2 [.string (hexT (valAt w V))] hp73 16 (by kernel_rfl) rfl rfl rfl (SlR.row (n := 1) hp73.get0 rfl).rd (List.all_eq_true.1 (by kernel_rfl)) (by decide) (by omega) (by omega) (fun a77 c78 w79 hp80 hn81 => ?_))
    rw [(show List.flatMap strc (([⟨#[112, 117, 116]⟩] ++ [itoaT A]) ++ [hexT Ky]) ++ [.string (hexT (valAt w V))] = List.flatMap strc ((([⟨#[112, 117, 116]⟩] ++ [itoaT A]) ++ [hexT Ky]) ++ [hexT (valAt w V)]) from (List.flatMap_append (xs := ([⟨#[112, 117, 116]⟩] ++ [itoaT A]) ++ [hexT Ky]) (ys := [hexT (valAt w V)])).symm)] at hp80
    refine OPS.batch 1 {} [] [1, 6] [.pointer (some ⟨g3, 0, none⟩), .slice a77 (1 + 1 + 1 + 1) c78] .nil (by kernel_rfl) (fun b82 => ?_)
    refine OPS.nil ?_
    refine thn_n ?_
    refine WP.seq ?_
    refine WP.seq ?_
    refine WP.pure {} [.slice L.a L.n L.c] [6, 55, 56, 57] [.slice a77 (1 + 1 + 1 + 1) c78, .slice L.a L.n L.c, .int .i64 ((L.n : Nat) : Int), .int .i64 0] (.cons (Ld.row1 (P := Tryd.prog) (t := 29) (o := 5) (v := .slice L.a L.n L.c) hp80.get5 (by kernel_rfl)) .nil) (by kernel_rfl) (fun b83 => ?_)
    refine thn_n ?_
    refine WP.block ?_
    refine WP.loop (fun mz_ e84 w85 => ∃ (j : Nat) (xs : List ByteArray) (ao : Option Addr) (no : Nat) (co : Nat), mz_ = l.length - j ∧ (j ≤ l.length ∧ xs = [⟨#[112, 117, 116]⟩, itoaT A, hexT Ky, hexT (valAt w V)] ++ (l.take j).map itoaT) ∧ List.map e84 [6, 55, 56, 57] = [.slice ao no co, .slice L.a L.n L.c, .int .i64 ((L.n : Nat) : Int), .int .i64 (j : Int)] ∧ Hp w Non [Res.own 9 1 (.slice ao no co) no (List.flatMap strc xs), Res.row g74 [.string (hexT (valAt w V))] 9, Res.row g56 [.string (hexT Ky)] 9, Res.row g35 [.string (itoaT A)] 9, Res.row g18 [.string ⟨#[112, 117, 116]⟩, .bool true, .bool false, .bool true, .bool true, .bool false, .bool false] 56, Res.row g3 [.int .i64 1, .int .i64 A, .int .i64 B, .string Ky, .slice V.a V.n V.c, .slice L.a L.n L.c] 31] w85) (l.length - (0)) ⟨0, (([⟨#[112, 117, 116]⟩] ++ [itoaT A]) ++ [hexT Ky]) ++ [hexT (valAt w V)], a77, 1 + 1 + 1 + 1, c78, rfl, ⟨by omega, rfl⟩, by kernel_rfl, (((((((hp80.pull5).pull5).pull5).pull4).pull4).pull5).sub (.cons_cons _ (.cons_cons _ (.cons_cons _ (.cons_cons _ (.cons_cons _ (.cons_cons _ (.slnil))))))))⟩ ?_
    rintro _ e84 w85 ⟨j, xs, ao, no, co, rfl, hI87, hE88, hp86⟩
    obtain ⟨b89, rfl⟩ := toMk hE88
    clear hE88
    obtain ⟨pa, pb⟩ := hI87
    have pe := own_flat (sz := 1) (fun _ => rfl) (by decide) hp86.get0
    have pl : xs.length = 4 + j := by rw [pb, List.length_append, List.length_map, List.length_take]; simp; omega
    have hlj : j < l.length → inI l[j]! := fun q => hi.2.2 _ (List.mem_of_getElem? (get_bang q))
    unfold inI at hlj
    refine WP.seq ?_
    refine WP.pure {} [] [6, 55, 56, 57, 58] [.slice ao no co, .slice L.a L.n L.c, .int .i64 ((L.n : Nat) : Int), .int .i64 (j : Int), .bool (decide ((j : Int) < ((L.n : Nat) : Int)))] .nil (by kernel_rfl) (fun b90 => ?_)
    refine thn_n ?_
    refine WP.seq ?_
    refine WP.test (p := (j : Int) < ((L.n : Nat) : Int)) rfl Bp.dec (fun h91 => ?_) (fun h91 => ?_)
    · refine WP.skip ?_
      refine thn_n ?_
      refine WP.seq ?_
      refine WP.block ?_
      refine WP.seq ?_
      have hy93 : (l)[j]? = some l[j]! := get_bang (by first | (omega) | (simp only [List.length_append, List.length_cons, List.length_nil]; omega) | (simp only [List.length_take, List.length_append, List.length_cons, List.length_nil]; omega))
      refine WP.pure {} [.int .i64 (l[j]!)] [6, 8, 55, 56, 57] [.slice ao no co, .int .i64 (l[j]!), .slice L.a L.n L.c, .int .i64 ((L.n : Nat) : Int), .int .i64 (j : Int)] (.cons (show InB ((j : Int)) (L.n) from ⟨by omega, by omega⟩) (.cons ((hL.at hp86).some (by omega)) (.cons (Ld.add0 (Ld.el1 (P := Tryd.prog) (t := 3) (hL.at hp86).rd 1 (fun _ => rfl) hy93 (o := 0) (v := .int .i64 (l[j]!)) (by kernel_rfl))) .nil))) (by kernel_rfl) (fun b94 => ?_)
      refine thn_n ?_
      refine WP.region _ rfl (by kernel_rfl) ?_
      refine OPS.batch 2 {} [] [55, 56, 57, 61, 62] [.slice L.a L.n L.c, .int .i64 ((L.n : Nat) : Int), .int .i64 (j : Int), .slice ao no co, .int .i64 (l[j]!)] .nil (by kernel_rfl) (fun b95 => ?_)
      refine OPS.cons (opStep.call (some 63) [.int .i64 (l[j]!)] (by kernel_rfl) (itoa_c (l[j]!) (by omega) (by omega) _ (hl.lib.fram hp86.fr)) ?_)
      rintro _ w98 ⟨rfl, hf99⟩
      refine ⟨_, rfl, ?_⟩
      have hp100 := hp86.step hf99
      refine OPS.cons (opStep.buildSlice (E := 9) hp100 [.string (itoaT (l[j]!))] (by kernel_rfl) (fun g103 w101 hp102 => ?_))
      refine OPS.cons (opStep.append1 [.string (itoaT (l[j]!))] hp102 16 (by kernel_rfl) rfl rfl rfl (SlR.row (n := 1) hp102.get0 rfl).rd (List.all_eq_true.1 (by kernel_rfl)) (by decide) (by omega) (by omega) (fun a106 c107 w108 hp109 hn110 => ?_))
      rw [(show List.flatMap strc xs ++ [.string (itoaT (l[j]!))] = List.flatMap strc (xs ++ [itoaT (l[j]!)]) from (List.flatMap_append (xs := xs) (ys := [itoaT (l[j]!)])).symm)] at hp109
      refine OPS.batch 1 {} [] [6, 55, 56, 57] [.slice a106 (no + 1) c107, .slice L.a L.n L.c, .int .i64 ((L.n : Nat) : Int), .int .i64 (j : Int)] .nil (by kernel_rfl) (fun b111 => ?_)
      refine OPS.nil ?_
      refine blk_n ?_
      refine thn_n ?_
      refine WP.pure {} [] [6, 55, 56, 57] [.slice a106 (no + 1) c107, .slice L.a L.n L.c, .int .i64 ((L.n : Nat) : Int), .int .i64 ((j : Int) + 1)] (.cons (show Rng .i64 ((j : Int) + 1) from Rng.i64 (by omega)) .nil) (by kernel_rfl) (fun b112 => ?_)
      refine thn_n ?_
      exact ⟨l.length - (j + 1), (by omega), j + 1, xs ++ [itoaT (l[j]!)], a106, no + 1, c107, rfl, ⟨by omega, by rw [pb, List.take_succ_eq_append_getElem (by omega), List.map_append, ← List.append_assoc]; rw [getElem!_pos l j (by omega)]; rfl⟩, by kernel_rfl, (hp109.sub (.cons _ (.cons_cons _ (.cons_cons _ (.cons_cons _ (.cons_cons _ (.cons_cons _ (.cons_cons _ (.slnil)))))))))⟩
    · refine WP.exit ?_
      refine thn_x ?_
      refine thn_x ?_
      refine blk_hit ?_
      refine thn_n ?_
      refine WP.seq ?_
      obtain rfl : j = l.length := by omega
      have hwe : joinB xs = lineS ⟨1, A, B, Ky, valAt w V, l⟩ := by rw [pb, List.take_of_length_le (Nat.le_refl _)]; rfl
      refine WP.region _ rfl (by kernel_rfl) ?_
      refine OPS.batch 1 {} [] [67] [.slice ao no co] .nil (by kernel_rfl) (fun b113 => ?_)
      have hp116 := hp86.pull0
      have hjl := own_flat (sz := 1) (fun _ => rfl) (by decide) hp116.get0
      refine OPS.cons (opStep.call (some 68) [.slice ao no co, .string ⟨#[32]⟩] (by kernel_rfl) (join_c (by omega) (by omega) (by rw [hwe]; exact hjz) hp116) ?_)
      rintro _ w117 ⟨rfl, hf118⟩
      refine ⟨_, rfl, ?_⟩
      have hp119 := hp116.step hf118
      refine OPS.batch 2 {} [] [2, 3] [.string (joinB xs), .int .i64 0] .nil (by kernel_rfl) (fun b120 => ?_)
      refine OPS.nil ?_
      refine thn_n ?_
      refine WP.ret ?_
      refine bodyQ.of _ rfl [.string (joinB xs), .int .i64 0] ⟨rfl, rfl, trivial⟩ ?_
      have hck : chkI ⟨1, A, B, Ky, valAt w V, l⟩ = 0 := by have h_ := h13; omega
      exact ⟨by simp only [pack]; rw [hwe, hck, lineV_ok (chk_ok hck)], hp119.fr⟩

theorem ln_k2 (A B : Int) (Ky : ByteArray) (V L : SlH) (l : List Int) (w : World) (hl : LibS w) (hx : StR w Tr ⟨2, A, B, Ky, V, L⟩ ⟨2, A, B, Ky, valAt w V, l⟩) (hs : smS ⟨2, A, B, Ky, valAt w V, l⟩) :
    Calls Tryd.prog 12 #[GStep.val (⟨2, A, B, Ky, V, L⟩ : GStep)] w (fun r_ w' => r_ = .returned (.tuple #[.string (lineV ⟨2, A, B, Ky, valAt w V, l⟩), .int .i64 (chkI ⟨2, A, B, Ky, valAt w V, l⟩)]) ∧ Fram Non w w') := by
  have hvb := hx.vb
  have hn := hx.ln
  have hL := hx.lr
  simp only at hvb hn hL
  have hi := hs.1
  have hA := hi.1
  have hB := hi.2.1
  unfold inI at hA hB
  have hsz1 := hs.2.1
  have hsz2 := hs.2.2.1
  have hsz3 := hs.2.2.2
  simp only at hA hB hsz1 hsz2 hsz3
  have hjz : (lineS ⟨2, A, B, Ky, valAt w V, l⟩).size ≤ 140737488355328 := by have h_ := line_size hs; simp only at h_; omega
  refine calls_of Tryd.func12 rfl 69 rfl (by simp) ?_
  have hp0 := Hp.init w
  have he0 : List.map (env0 [GStep.val (⟨2, A, B, Ky, V, L⟩ : GStep)]) [0] = [GStep.val (⟨2, A, B, Ky, V, L⟩ : GStep)] := by kernel_rfl
  obtain ⟨b0, he0⟩ := toMk he0
  rw [he0]
  clear he0
  refine WP.seq ?_
  refine WP.region _ rfl (by kernel_rfl) ?_
  refine OPS.cons (opStep.box hp0 [.int .i64 2, .int .i64 A, .int .i64 B, .string Ky, .slice V.a V.n V.c, .slice L.a L.n L.c] (by kernel_rfl) (fun g3 w1 hp2 => ?_))
  refine OPS.batch 2 {} [] [1] [.pointer (some ⟨g3, 0, none⟩)] .nil (by kernel_rfl) (fun b4 => ?_)
  refine OPS.nil ?_
  refine thn_n ?_
  refine WP.seq ?_
  refine WP.seq ?_
  refine WP.region _ rfl (by kernel_rfl) ?_
  refine OPS.batch 1 {} [GStep.val (⟨2, A, B, Ky, V, L⟩ : GStep)] [1, 9] [.pointer (some ⟨g3, 0, none⟩), GStep.val (⟨2, A, B, Ky, V, L⟩ : GStep)] (.cons (show Ld Tryd.prog w1 31 ⟨g3, 0, none⟩ (GStep.val (⟨2, A, B, Ky, V, L⟩ : GStep)) from Ld.rowN (cs := [.int .i64 2, .int .i64 A, .int .i64 B, .string Ky, .slice V.a V.n V.c, .slice L.a L.n L.c]) hp2.get0 (by kernel_rfl)) .nil) (by kernel_rfl) (fun b5 => ?_)
  refine OPS.cons (opStep.call (some 10) [GStep.val (⟨2, A, B, Ky, V, L⟩ : GStep)] (by kernel_rfl) (sc_Check _ (⟨2, A, B, Ky, valAt w V, l⟩ : StepP) _ (hl.fram hp2.fr) (hx.fram hp2.fr)) ?_)
  rintro _ w8 ⟨rfl, hf9⟩
  refine ⟨_, rfl, ?_⟩
  have hp10 := hp2.step hf9
  refine OPS.batch 1 {} [] [1, 4] [.pointer (some ⟨g3, 0, none⟩), .int .i64 (chkI (⟨2, A, B, Ky, valAt w V, l⟩ : StepP))] .nil (by kernel_rfl) (fun b11 => ?_)
  refine OPS.nil ?_
  refine thn_n ?_
  refine WP.seq ?_
  refine WP.pure {} [] [1, 4, 12] [.pointer (some ⟨g3, 0, none⟩), .int .i64 (chkI (⟨2, A, B, Ky, valAt w V, l⟩ : StepP)), .bool (decide (¬ ((chkI (⟨2, A, B, Ky, valAt w V, l⟩ : StepP)) = 0)))] .nil (by kernel_rfl) (fun b12 => ?_)
  refine thn_n ?_
  refine WP.test (p := ¬ ((chkI (⟨2, A, B, Ky, valAt w V, l⟩ : StepP)) = 0)) rfl Bp.dec (fun h13 => ?_) (fun h13 => ?_)
  · refine WP.seq ?_
    refine WP.pure {} [] [2, 3] [.string ⟨#[]⟩, .int .i64 (chkI (⟨2, A, B, Ky, valAt w V, l⟩ : StepP))] .nil (by kernel_rfl) (fun b14 => ?_)
    refine thn_n ?_
    refine WP.ret ?_
    refine thn_r ?_
    refine bodyQ.of _ rfl [.string ⟨#[]⟩, .int .i64 (chkI (⟨2, A, B, Ky, valAt w V, l⟩ : StepP))] ⟨rfl, rfl, trivial⟩ ?_
    exact ⟨by simp only [pack]; rw [lineV_no h13], hp10.fr⟩
  · replace h13 := Classical.not_not.1 h13
    refine WP.skip ?_
    refine thn_n ?_
    refine WP.seq ?_
    refine WP.region _ rfl (by kernel_rfl) ?_
    refine OPS.batch 4 {} [.int .i64 2, .agg #[.string ⟨#[103, 101, 116]⟩, .bool true, .bool false, .bool true, .bool false, .bool false, .bool false]] [1, 17] [.pointer (some ⟨g3, 0, none⟩), .agg #[.string ⟨#[103, 101, 116]⟩, .bool true, .bool false, .bool true, .bool false, .bool false, .bool false]] (.cons (Ld.row1 (P := Tryd.prog) (t := 3) (o := 0) (v := .int .i64 2) hp10.get0 (by kernel_rfl)) (.cons (show InB (2) (17) from ⟨by omega, by omega⟩) (.cons (show Ld Tryd.prog w8 56 ⟨0, 14, none⟩ (.agg #[.string ⟨#[103, 101, 116]⟩, .bool true, .bool false, .bool true, .bool false, .bool false, .bool false]) from Ld.rowN (cs := [.string ⟨#[103, 101, 116]⟩, .bool true, .bool false, .bool true, .bool false, .bool false, .bool false]) (row_at hl.tab hp10.fr) (by kernel_rfl)) .nil))) (by kernel_rfl) (fun b15 => ?_)
    refine OPS.cons (opStep.alloc hp10 [.string ByteArray.empty, .bool false, .bool false, .bool false, .bool false, .bool false, .bool false] (by kernel_rfl) (fun g18 w16 hp17 => ?_))
    refine OPS.cons (opStep.store0 hp17 rfl [.string ⟨#[103, 101, 116]⟩, .bool true, .bool false, .bool true, .bool false, .bool false, .bool false] [.string ⟨#[103, 101, 116]⟩, .bool true, .bool false, .bool true, .bool false, .bool false, .bool false] (by kernel_rfl) (fun w19 hp20 => ?_))
    refine OPS.nil ?_
    refine thn_n ?_
    refine WP.seq ?_
    refine WP.region _ rfl (by kernel_rfl) ?_
    refine OPS.batch 2 {} [.string ⟨#[103, 101, 116]⟩] [1, 5, 19] [.pointer (some ⟨g3, 0, none⟩), .pointer (some ⟨g18, 0, none⟩), .string ⟨#[103, 101, 116]⟩] (.cons (Ld.row1 (P := Tryd.prog) (t := 9) (o := 0) (v := .string ⟨#[103, 101, 116]⟩) hp20.get0 (by kernel_rfl)) .nil) (by kernel_rfl) (fun b21 => ?_)
    refine OPS.cons (opStep.buildSlice (E := 9) hp20 [.string ⟨#[103, 101, 116]⟩] (by kernel_rfl) (fun g24 w22 hp23 => ?_))
    refine OPS.batch 1 {} [] [1, 5, 6] [.pointer (some ⟨g3, 0, none⟩), .pointer (some ⟨g18, 0, none⟩), .slice (some ⟨g24, 0, none⟩) 1 1] .nil (by kernel_rfl) (fun b25 => ?_)
    refine OPS.nil ?_
    refine thn_n ?_
    refine WP.seq ?_
    refine WP.seq ?_
    refine WP.pure {} [.bool true] [1, 5, 6, 22] [.pointer (some ⟨g3, 0, none⟩), .pointer (some ⟨g18, 0, none⟩), .slice (some ⟨g24, 0, none⟩) 1 1, .bool true] (.cons (Ld.row1 (P := Tryd.prog) (t := 4) (o := 1) (v := .bool true) hp23.get1 (by kernel_rfl)) .nil) (by kernel_rfl) (fun b26 => ?_)
    refine thn_n ?_
    refine WP.condT rfl ?_
    refine WP.region _ rfl (by kernel_rfl) ?_
    refine OPS.batch 3 {} [.int .i64 A] [1, 5, 23, 25] [.pointer (some ⟨g3, 0, none⟩), .pointer (some ⟨g18, 0, none⟩), .slice (some ⟨g24, 0, none⟩) 1 1, .int .i64 A] (.cons (Ld.row1 (P := Tryd.prog) (t := 3) (o := 1) (v := .int .i64 A) hp23.get2 (by kernel_rfl)) .nil) (by kernel_rfl) (fun b27 => ?_)
    refine OPS.cons (opStep.call (some 26) [.int .i64 A] (by kernel_rfl) (itoa_c A (by omega) (by omega) _ (hl.lib.fram hp23.fr)) ?_)
    rintro _ w30 ⟨rfl, hf31⟩
    refine ⟨_, rfl, ?_⟩
    have hp32 := hp23.step hf31
    refine OPS.cons (opStep.buildSlice (E := 9) hp32 [.string (itoaT A)] (by kernel_rfl) (fun g35 w33 hp34 => ?_))
    have hp38 := hp34.pull1
    have hp39 := (show Hp w Non [Res.own 9 1 (.slice (some ⟨g24, 0, none⟩) 1 1) 1 (List.flatMap strc [⟨#[103, 101, 116]⟩]), Res.row g35 [.string (itoaT A)] 9, Res.row g18 [.string ⟨#[103, 101, 116]⟩, .bool true, .bool false, .bool true, .bool false, .bool false, .bool false] 56, Res.row g3 [.int .i64 2, .int .i64 A, .int .i64 B, .string Ky, .slice V.a V.n V.c, .slice L.a L.n L.c] 31] w33 from hp38.rowOwnN (sz := 1) (n := 1) rfl (by decide))
    refine OPS.cons (opStep.append0 [.string (itoaT A)] hp39 16 (by kernel_rfl) rfl rfl rfl (SlR.row (n := 1) hp39.get1 rfl).rd (List.all_eq_true.1 (by kernel_rfl)) (by decide) (by omega) (by omega) (fun a40 c41 w42 hp43 hn44 => ?_))
    rw [(show List.flatMap strc [⟨#[103, 101, 116]⟩] ++ [.string (itoaT A)] = List.flatMap strc ([⟨#[103, 101, 116]⟩] ++ [itoaT A]) from (List.flatMap_append (xs := [⟨#[103, 101, 116]⟩]) (ys := [itoaT A])).symm)] at hp43
    refine OPS.batch 1 {} [] [1, 5, 6] [.pointer (some ⟨g3, 0, none⟩), .pointer (some ⟨g18, 0, none⟩), .slice a40 (1 + 1) c41] .nil (by kernel_rfl) (fun b45 => ?_)
    refine OPS.nil ?_
    refine thn_n ?_
    refine WP.seq ?_
    refine WP.seq ?_
    refine WP.pure {} [.bool false] [1, 5, 6, 30] [.pointer (some ⟨g3, 0, none⟩), .pointer (some ⟨g18, 0, none⟩), .slice a40 (1 + 1) c41, .bool false] (.cons (Ld.row1 (P := Tryd.prog) (t := 4) (o := 2) (v := .bool false) hp43.get2 (by kernel_rfl)) .nil) (by kernel_rfl) (fun b46 => ?_)
    refine thn_n ?_
    refine WP.condF rfl ?_
    refine WP.skip ?_
    refine thn_n ?_
    refine WP.seq ?_
    refine WP.seq ?_
    refine WP.pure {} [.bool true] [1, 5, 6, 38] [.pointer (some ⟨g3, 0, none⟩), .pointer (some ⟨g18, 0, none⟩), .slice a40 (1 + 1) c41, .bool true] (.cons (Ld.row1 (P := Tryd.prog) (t := 4) (o := 3) (v := .bool true) hp43.get2 (by kernel_rfl)) .nil) (by kernel_rfl) (fun b47 => ?_)
    refine thn_n ?_
    refine WP.condT rfl ?_
    refine WP.region _ rfl (by kernel_rfl) ?_
    refine OPS.batch 3 {} [.string Ky] [1, 5, 39, 41] [.pointer (some ⟨g3, 0, none⟩), .pointer (some ⟨g18, 0, none⟩), .slice a40 (1 + 1) c41, .string Ky] (.cons (Ld.row1 (P := Tryd.prog) (t := 9) (o := 3) (v := .string Ky) hp43.get3 (by kernel_rfl)) .nil) (by kernel_rfl) (fun b48 => ?_)
    refine OPS.cons (opStep.call (some 42) [.string Ky] (by kernel_rfl) (sc_written Ky (by omega) _) ?_)
    rintro _ w51 ⟨rfl, hf52⟩
    refine ⟨_, rfl, ?_⟩
    have hp53 := hp43.step hf52
    refine OPS.cons (opStep.buildSlice (E := 9) hp53 [.string (hexT Ky)] (by kernel_rfl) (fun g56 w54 hp55 => ?_))
    refine OPS.cons (opStep.append1 [.string (hexT Ky)] hp55 16 (by kernel_rfl) rfl rfl rfl (SlR.row (n := 1) hp55.get0 rfl).rd (List.all_eq_true.1 (by kernel_rfl)) (by decide) (by omega) (by omega) (fun a59 c60 w61 hp62 hn63 => ?_))
    rw [(show List.flatMap strc ([⟨#[103, 101, 116]⟩] ++ [itoaT A]) ++ [.string (hexT Ky)] = List.flatMap strc (([⟨#[103, 101, 116]⟩] ++ [itoaT A]) ++ [hexT Ky]) from (List.flatMap_append (xs := [⟨#[103, 101, 116]⟩] ++ [itoaT A]) (ys := [hexT Ky])).symm)] at hp62
    refine OPS.batch 1 {} [] [1, 5, 6] [.pointer (some ⟨g3, 0, none⟩), .pointer (some ⟨g18, 0, none⟩), .slice a59 (1 + 1 + 1) c60] .nil (by kernel_rfl) (fun b64 => ?_)
    refine OPS.nil ?_
    refine thn_n ?_
    refine WP.seq ?_
    refine WP.seq ?_
    refine WP.pure {} [.bool false] [1, 6, 46] [.pointer (some ⟨g3, 0, none⟩), .slice a59 (1 + 1 + 1) c60, .bool false] (.cons (Ld.row1 (P := Tryd.prog) (t := 4) (o := 4) (v := .bool false) hp62.get3 (by kernel_rfl)) .nil) (by kernel_rfl) (fun b65 => ?_)
    refine thn_n ?_
    refine WP.condF rfl ?_
    refine WP.skip ?_
    refine thn_n ?_
    refine WP.seq ?_
    refine WP.seq ?_
    refine WP.pure {} [.slice L.a L.n L.c] [6, 55, 56, 57] [.slice a59 (1 + 1 + 1) c60, .slice L.a L.n L.c, .int .i64 ((L.n : Nat) : Int), .int .i64 0] (.cons (Ld.row1 (P := Tryd.prog) (t := 29) (o := 5) (v := .slice L.a L.n L.c) hp62.get4 (by kernel_rfl)) .nil) (by kernel_rfl) (fun b66 => ?_)
    refine thn_n ?_
    refine WP.block ?_
    refine WP.loop (fun mz_ e67 w68 => ∃ (j : Nat) (xs : List ByteArray) (ao : Option Addr) (no : Nat) (co : Nat), mz_ = l.length - j ∧ (j ≤ l.length ∧ xs = [⟨#[103, 101, 116]⟩, itoaT A, hexT Ky] ++ (l.take j).map itoaT) ∧ List.map e67 [6, 55, 56, 57] = [.slice ao no co, .slice L.a L.n L.c, .int .i64 ((L.n : Nat) : Int), .int .i64 (j : Int)] ∧ Hp w Non [Res.own 9 1 (.slice ao no co) no (List.flatMap strc xs), Res.row g56 [.string (hexT Ky)] 9, Res.row g35 [.string (itoaT A)] 9, Res.row g18 [.string ⟨#[103, 101, 116]⟩, .bool true, .bool false, .bool true, .bool false, .bool false, .bool false] 56, Res.row g3 [.int .i64 2, .int .i64 A, .int .i64 B, .string Ky, .slice V.a V.n V.c, .slice L.a L.n L.c] 31] w68) (l.length - (0)) ⟨0, ([⟨#[103, 101, 116]⟩] ++ [itoaT A]) ++ [hexT Ky], a59, 1 + 1 + 1, c60, rfl, ⟨by omega, rfl⟩, by kernel_rfl, ((((((hp62.pull4).pull4).pull4).pull3).pull4).sub (.cons_cons _ (.cons_cons _ (.cons_cons _ (.cons_cons _ (.cons_cons _ (.slnil)))))))⟩ ?_
    rintro _ e67 w68 ⟨j, xs, ao, no, co, rfl, hI70, hE71, hp69⟩
    obtain ⟨b72, rfl⟩ := toMk hE71
    clear hE71
    obtain ⟨pa, pb⟩ := hI70
    have pe := own_flat (sz := 1) (fun _ => rfl) (by decide) hp69.get0
    have pl : xs.length = 3 + j := by rw [pb, List.length_append, List.length_map, List.length_take]; simp; omega
    have hlj : j < l.length → inI l[j]! := fun q => hi.2.2 _ (List.mem_of_getElem? (get_bang q))
    unfold inI at hlj
    refine WP.seq ?_
    refine WP.pure {} [] [6, 55, 56, 57, 58] [.slice ao no co, .slice L.a L.n L.c, .int .i64 ((L.n : Nat) : Int), .int .i64 (j : Int), .bool (decide ((j : Int) < ((L.n : Nat) : Int)))] .nil (by kernel_rfl) (fun b73 => ?_)
    refine thn_n ?_
    refine WP.seq ?_
    refine WP.test (p := (j : Int) < ((L.n : Nat) : Int)) rfl Bp.dec (fun h74 => ?_) (fun h74 => ?_)
    · refine WP.skip ?_
      refine thn_n ?_
      refine WP.seq ?_
      refine WP.block ?_
      refine WP.seq ?_
      have hy76 : (l)[j]? = some l[j]! := get_bang (by first | (omega) | (simp only [List.length_append, List.length_cons, List.length_nil]; omega) | (simp only [List.length_take, List.length_append, List.length_cons, List.length_nil]; omega))
      refine WP.pure {} [.int .i64 (l[j]!)] [6, 8, 55, 56, 57] [.slice ao no co, .int .i64 (l[j]!), .slice L.a L.n L.c, .int .i64 ((L.n : Nat) : Int), .int .i64 (j : Int)] (.cons (show InB ((j : Int)) (L.n) from ⟨by omega, by omega⟩) (.cons ((hL.at hp69).some (by omega)) (.cons (Ld.add0 (Ld.el1 (P := Tryd.prog) (t := 3) (hL.at hp69).rd 1 (fun _ => rfl) hy76 (o := 0) (v := .int .i64 (l[j]!)) (by kernel_rfl))) .nil))) (by kernel_rfl) (fun b77 => ?_)
      refine thn_n ?_
      refine WP.region _ rfl (by kernel_rfl) ?_
      refine OPS.batch 2 {} [] [55, 56, 57, 61, 62] [.slice L.a L.n L.c, .int .i64 ((L.n : Nat) : Int), .int .i64 (j : Int), .slice ao no co, .int .i64 (l[j]!)] .nil (by kernel_rfl) (fun b78 => ?_)
      refine OPS.cons (opStep.call (some 63) [.int .i64 (l[j]!)] (by kernel_rfl) (itoa_c (l[j]!) (by omega) (by omega) _ (hl.lib.fram hp69.fr)) ?_)
      rintro _ w81 ⟨rfl, hf82⟩
      refine ⟨_, rfl, ?_⟩
      have hp83 := hp69.step hf82
      refine OPS.cons (opStep.buildSlice (E := 9) hp83 [.string (itoaT (l[j]!))] (by kernel_rfl) (fun g86 w84 hp85 => ?_))
      refine OPS.cons (opStep.append1 [.string (itoaT (l[j]!))] hp85 16 (by kernel_rfl) rfl rfl rfl (SlR.row (n := 1) hp85.get0 rfl).rd (List.all_eq_true.1 (by kernel_rfl)) (by decide) (by omega) (by omega) (fun a89 c90 w91 hp92 hn93 => ?_))
      rw [(show List.flatMap strc xs ++ [.string (itoaT (l[j]!))] = List.flatMap strc (xs ++ [itoaT (l[j]!)]) from (List.flatMap_append (xs := xs) (ys := [itoaT (l[j]!)])).symm)] at hp92
      refine OPS.batch 1 {} [] [6, 55, 56, 57] [.slice a89 (no + 1) c90, .slice L.a L.n L.c, .int .i64 ((L.n : Nat) : Int), .int .i64 (j : Int)] .nil (by kernel_rfl) (fun b94 => ?_)
      refine OPS.nil ?_
      refine blk_n ?_
      refine thn_n ?_
      refine WP.pure {} [] [6, 55, 56, 57] [.slice a89 (no + 1) c90, .slice L.a L.n L.c, .int .i64 ((L.n : Nat) : Int), .int .i64 ((j : Int) + 1)] (.cons (show Rng .i64 ((j : Int) + 1) from Rng.i64 (by omega)) .nil) (by kernel_rfl) (fun b95 => ?_)
      refine thn_n ?_
      exact ⟨l.length - (j + 1), (by omega), j + 1, xs ++ [itoaT (l[j]!)], a89, no + 1, c90, rfl, ⟨by omega, by rw [pb, List.take_succ_eq_append_getElem (by omega), List.map_append, ← List.append_assoc]; rw [getElem!_pos l j (by omega)]; rfl⟩, by kernel_rfl, (hp92.sub (.cons _ (.cons_cons _ (.cons_cons _ (.cons_cons _ (.cons_cons _ (.cons_cons _ (.slnil))))))))⟩
    · refine WP.exit ?_
      refine thn_x ?_
      refine thn_x ?_
      refine blk_hit ?_
      refine thn_n ?_
      refine WP.seq ?_
      obtain rfl : j = l.length := by omega
      have hwe : joinB xs = lineS ⟨2, A, B, Ky, valAt w V, l⟩ := by rw [pb, List.take_of_length_le (Nat.le_refl _)]; rfl
      refine WP.region _ rfl (by kernel_rfl) ?_
      refine OPS.batch 1 {} [] [67] [.slice ao no co] .nil (by kernel_rfl) (fun b96 => ?_)
      have hp99 := hp69.pull0
      have hjl := own_flat (sz := 1) (fun _ => rfl) (by decide) hp99.get0
      refine OPS.cons (opStep.call (some 68) [.slice ao no co, .string ⟨#[32]⟩] (by kernel_rfl) (join_c (by omega) (by omega) (by rw [hwe]; exact hjz) hp99) ?_)
      rintro _ w100 ⟨rfl, hf101⟩
      refine ⟨_, rfl, ?_⟩
      have hp102 := hp99.step hf101
      refine OPS.batch 2 {} [] [2, 3] [.string (joinB xs), .int .i64 0] .nil (by kernel_rfl) (fun b103 => ?_)
      refine OPS.nil ?_
      refine thn_n ?_
      refine WP.ret ?_
      refine bodyQ.of _ rfl [.string (joinB xs), .int .i64 0] ⟨rfl, rfl, trivial⟩ ?_
      have hck : chkI ⟨2, A, B, Ky, valAt w V, l⟩ = 0 := by have h_ := h13; omega
      exact ⟨by simp only [pack]; rw [hwe, hck, lineV_ok (chk_ok hck)], hp102.fr⟩

theorem ln_k9 (A B : Int) (Ky : ByteArray) (V L : SlH) (l : List Int) (w : World) (hl : LibS w) (hx : StR w Tr ⟨9, A, B, Ky, V, L⟩ ⟨9, A, B, Ky, valAt w V, l⟩) (hs : smS ⟨9, A, B, Ky, valAt w V, l⟩) :
    Calls Tryd.prog 12 #[GStep.val (⟨9, A, B, Ky, V, L⟩ : GStep)] w (fun r_ w' => r_ = .returned (.tuple #[.string (lineV ⟨9, A, B, Ky, valAt w V, l⟩), .int .i64 (chkI ⟨9, A, B, Ky, valAt w V, l⟩)]) ∧ Fram Non w w') := by
  have hvb := hx.vb
  have hn := hx.ln
  have hL := hx.lr
  simp only at hvb hn hL
  have hi := hs.1
  have hA := hi.1
  have hB := hi.2.1
  unfold inI at hA hB
  have hsz1 := hs.2.1
  have hsz2 := hs.2.2.1
  have hsz3 := hs.2.2.2
  simp only at hA hB hsz1 hsz2 hsz3
  have hjz : (lineS ⟨9, A, B, Ky, valAt w V, l⟩).size ≤ 140737488355328 := by have h_ := line_size hs; simp only at h_; omega
  refine calls_of Tryd.func12 rfl 69 rfl (by simp) ?_
  have hp0 := Hp.init w
  have he0 : List.map (env0 [GStep.val (⟨9, A, B, Ky, V, L⟩ : GStep)]) [0] = [GStep.val (⟨9, A, B, Ky, V, L⟩ : GStep)] := by kernel_rfl
  obtain ⟨b0, he0⟩ := toMk he0
  rw [he0]
  clear he0
  refine WP.seq ?_
  refine WP.region _ rfl (by kernel_rfl) ?_
  refine OPS.cons (opStep.box hp0 [.int .i64 9, .int .i64 A, .int .i64 B, .string Ky, .slice V.a V.n V.c, .slice L.a L.n L.c] (by kernel_rfl) (fun g3 w1 hp2 => ?_))
  refine OPS.batch 2 {} [] [1] [.pointer (some ⟨g3, 0, none⟩)] .nil (by kernel_rfl) (fun b4 => ?_)
  refine OPS.nil ?_
  refine thn_n ?_
  refine WP.seq ?_
  refine WP.seq ?_
  refine WP.region _ rfl (by kernel_rfl) ?_
  refine OPS.batch 1 {} [GStep.val (⟨9, A, B, Ky, V, L⟩ : GStep)] [1, 9] [.pointer (some ⟨g3, 0, none⟩), GStep.val (⟨9, A, B, Ky, V, L⟩ : GStep)] (.cons (show Ld Tryd.prog w1 31 ⟨g3, 0, none⟩ (GStep.val (⟨9, A, B, Ky, V, L⟩ : GStep)) from Ld.rowN (cs := [.int .i64 9, .int .i64 A, .int .i64 B, .string Ky, .slice V.a V.n V.c, .slice L.a L.n L.c]) hp2.get0 (by kernel_rfl)) .nil) (by kernel_rfl) (fun b5 => ?_)
  refine OPS.cons (opStep.call (some 10) [GStep.val (⟨9, A, B, Ky, V, L⟩ : GStep)] (by kernel_rfl) (sc_Check _ (⟨9, A, B, Ky, valAt w V, l⟩ : StepP) _ (hl.fram hp2.fr) (hx.fram hp2.fr)) ?_)
  rintro _ w8 ⟨rfl, hf9⟩
  refine ⟨_, rfl, ?_⟩
  have hp10 := hp2.step hf9
  refine OPS.batch 1 {} [] [1, 4] [.pointer (some ⟨g3, 0, none⟩), .int .i64 (chkI (⟨9, A, B, Ky, valAt w V, l⟩ : StepP))] .nil (by kernel_rfl) (fun b11 => ?_)
  refine OPS.nil ?_
  refine thn_n ?_
  refine WP.seq ?_
  refine WP.pure {} [] [1, 4, 12] [.pointer (some ⟨g3, 0, none⟩), .int .i64 (chkI (⟨9, A, B, Ky, valAt w V, l⟩ : StepP)), .bool (decide (¬ ((chkI (⟨9, A, B, Ky, valAt w V, l⟩ : StepP)) = 0)))] .nil (by kernel_rfl) (fun b12 => ?_)
  refine thn_n ?_
  refine WP.test (p := ¬ ((chkI (⟨9, A, B, Ky, valAt w V, l⟩ : StepP)) = 0)) rfl Bp.dec (fun h13 => ?_) (fun h13 => ?_)
  · refine WP.seq ?_
    refine WP.pure {} [] [2, 3] [.string ⟨#[]⟩, .int .i64 (chkI (⟨9, A, B, Ky, valAt w V, l⟩ : StepP))] .nil (by kernel_rfl) (fun b14 => ?_)
    refine thn_n ?_
    refine WP.ret ?_
    refine thn_r ?_
    refine bodyQ.of _ rfl [.string ⟨#[]⟩, .int .i64 (chkI (⟨9, A, B, Ky, valAt w V, l⟩ : StepP))] ⟨rfl, rfl, trivial⟩ ?_
    exact ⟨by simp only [pack]; rw [lineV_no h13], hp10.fr⟩
  · replace h13 := Classical.not_not.1 h13
    refine WP.skip ?_
    refine thn_n ?_
    refine WP.seq ?_
    refine WP.region _ rfl (by kernel_rfl) ?_
    refine OPS.batch 4 {} [.int .i64 9, .agg #[.string ⟨#[98, 117, 114, 115, 116]⟩, .bool true, .bool true, .bool false, .bool false, .bool true, .bool false]] [1, 17] [.pointer (some ⟨g3, 0, none⟩), .agg #[.string ⟨#[98, 117, 114, 115, 116]⟩, .bool true, .bool true, .bool false, .bool false, .bool true, .bool false]] (.cons (Ld.row1 (P := Tryd.prog) (t := 3) (o := 0) (v := .int .i64 9) hp10.get0 (by kernel_rfl)) (.cons (show InB (9) (17) from ⟨by omega, by omega⟩) (.cons (show Ld Tryd.prog w8 56 ⟨0, 63, none⟩ (.agg #[.string ⟨#[98, 117, 114, 115, 116]⟩, .bool true, .bool true, .bool false, .bool false, .bool true, .bool false]) from Ld.rowN (cs := [.string ⟨#[98, 117, 114, 115, 116]⟩, .bool true, .bool true, .bool false, .bool false, .bool true, .bool false]) (row_at hl.tab hp10.fr) (by kernel_rfl)) .nil))) (by kernel_rfl) (fun b15 => ?_)
    refine OPS.cons (opStep.alloc hp10 [.string ByteArray.empty, .bool false, .bool false, .bool false, .bool false, .bool false, .bool false] (by kernel_rfl) (fun g18 w16 hp17 => ?_))
    refine OPS.cons (opStep.store0 hp17 rfl [.string ⟨#[98, 117, 114, 115, 116]⟩, .bool true, .bool true, .bool false, .bool false, .bool true, .bool false] [.string ⟨#[98, 117, 114, 115, 116]⟩, .bool true, .bool true, .bool false, .bool false, .bool true, .bool false] (by kernel_rfl) (fun w19 hp20 => ?_))
    refine OPS.nil ?_
    refine thn_n ?_
    refine WP.seq ?_
    refine WP.region _ rfl (by kernel_rfl) ?_
    refine OPS.batch 2 {} [.string ⟨#[98, 117, 114, 115, 116]⟩] [1, 5, 19] [.pointer (some ⟨g3, 0, none⟩), .pointer (some ⟨g18, 0, none⟩), .string ⟨#[98, 117, 114, 115, 116]⟩] (.cons (Ld.row1 (P := Tryd.prog) (t := 9) (o := 0) (v := .string ⟨#[98, 117, 114, 115, 116]⟩) hp20.get0 (by kernel_rfl)) .nil) (by kernel_rfl) (fun b21 => ?_)
    refine OPS.cons (opStep.buildSlice (E := 9) hp20 [.string ⟨#[98, 117, 114, 115, 116]⟩] (by kernel_rfl) (fun g24 w22 hp23 => ?_))
    refine OPS.batch 1 {} [] [1, 5, 6] [.pointer (some ⟨g3, 0, none⟩), .pointer (some ⟨g18, 0, none⟩), .slice (some ⟨g24, 0, none⟩) 1 1] .nil (by kernel_rfl) (fun b25 => ?_)
    refine OPS.nil ?_
    refine thn_n ?_
    refine WP.seq ?_
    refine WP.seq ?_
    refine WP.pure {} [.bool true] [1, 5, 6, 22] [.pointer (some ⟨g3, 0, none⟩), .pointer (some ⟨g18, 0, none⟩), .slice (some ⟨g24, 0, none⟩) 1 1, .bool true] (.cons (Ld.row1 (P := Tryd.prog) (t := 4) (o := 1) (v := .bool true) hp23.get1 (by kernel_rfl)) .nil) (by kernel_rfl) (fun b26 => ?_)
    refine thn_n ?_
    refine WP.condT rfl ?_
    refine WP.region _ rfl (by kernel_rfl) ?_
    refine OPS.batch 3 {} [.int .i64 A] [1, 5, 23, 25] [.pointer (some ⟨g3, 0, none⟩), .pointer (some ⟨g18, 0, none⟩), .slice (some ⟨g24, 0, none⟩) 1 1, .int .i64 A] (.cons (Ld.row1 (P := Tryd.prog) (t := 3) (o := 1) (v := .int .i64 A) hp23.get2 (by kernel_rfl)) .nil) (by kernel_rfl) (fun b27 => ?_)
    refine OPS.cons (opStep.call (some 26) [.int .i64 A] (by kernel_rfl) (itoa_c A (by omega) (by omega) _ (hl.lib.fram hp23.fr)) ?_)
    rintro _ w30 ⟨rfl, hf31⟩
    refine ⟨_, rfl, ?_⟩
    have hp32 := hp23.step hf31
    refine OPS.cons (opStep.buildSlice (E := 9) hp32 [.string (itoaT A)] (by kernel_rfl) (fun g35 w33 hp34 => ?_))
    have hp38 := hp34.pull1
    have hp39 := (show Hp w Non [Res.own 9 1 (.slice (some ⟨g24, 0, none⟩) 1 1) 1 (List.flatMap strc [⟨#[98, 117, 114, 115, 116]⟩]), Res.row g35 [.string (itoaT A)] 9, Res.row g18 [.string ⟨#[98, 117, 114, 115, 116]⟩, .bool true, .bool true, .bool false, .bool false, .bool true, .bool false] 56, Res.row g3 [.int .i64 9, .int .i64 A, .int .i64 B, .string Ky, .slice V.a V.n V.c, .slice L.a L.n L.c] 31] w33 from hp38.rowOwnN (sz := 1) (n := 1) rfl (by decide))
    refine OPS.cons (opStep.append0 [.string (itoaT A)] hp39 16 (by kernel_rfl) rfl rfl rfl (SlR.row (n := 1) hp39.get1 rfl).rd (List.all_eq_true.1 (by kernel_rfl)) (by decide) (by omega) (by omega) (fun a40 c41 w42 hp43 hn44 => ?_))
    rw [(show List.flatMap strc [⟨#[98, 117, 114, 115, 116]⟩] ++ [.string (itoaT A)] = List.flatMap strc ([⟨#[98, 117, 114, 115, 116]⟩] ++ [itoaT A]) from (List.flatMap_append (xs := [⟨#[98, 117, 114, 115, 116]⟩]) (ys := [itoaT A])).symm)] at hp43
    refine OPS.batch 1 {} [] [1, 5, 6] [.pointer (some ⟨g3, 0, none⟩), .pointer (some ⟨g18, 0, none⟩), .slice a40 (1 + 1) c41] .nil (by kernel_rfl) (fun b45 => ?_)
    refine OPS.nil ?_
    refine thn_n ?_
    refine WP.seq ?_
    refine WP.seq ?_
    refine WP.pure {} [.bool true] [1, 5, 6, 30] [.pointer (some ⟨g3, 0, none⟩), .pointer (some ⟨g18, 0, none⟩), .slice a40 (1 + 1) c41, .bool true] (.cons (Ld.row1 (P := Tryd.prog) (t := 4) (o := 2) (v := .bool true) hp43.get2 (by kernel_rfl)) .nil) (by kernel_rfl) (fun b46 => ?_)
    refine thn_n ?_
    refine WP.condT rfl ?_
    refine WP.region _ rfl (by kernel_rfl) ?_
    refine OPS.batch 3 {} [.int .i64 B] [1, 5, 31, 33] [.pointer (some ⟨g3, 0, none⟩), .pointer (some ⟨g18, 0, none⟩), .slice a40 (1 + 1) c41, .int .i64 B] (.cons (Ld.row1 (P := Tryd.prog) (t := 3) (o := 2) (v := .int .i64 B) hp43.get3 (by kernel_rfl)) .nil) (by kernel_rfl) (fun b47 => ?_)
    refine OPS.cons (opStep.call (some 34) [.int .i64 B] (by kernel_rfl) (itoa_c B (by omega) (by omega) _ (hl.lib.fram hp43.fr)) ?_)
    rintro _ w50 ⟨rfl, hf51⟩
    refine ⟨_, rfl, ?_⟩
    have hp52 := hp43.step hf51
    refine OPS.cons (opStep.buildSlice (E := 9) hp52 [.string (itoaT B)] (by kernel_rfl) (fun g55 w53 hp54 => ?_))
    refine OPS.cons (opStep.append1 [.string (itoaT B)] hp54 16 (by kernel_rfl) rfl rfl rfl (SlR.row (n := 1) hp54.get0 rfl).rd (List.all_eq_true.1 (by kernel_rfl)) (by decide) (by omega) (by omega) (fun a58 c59 w60 hp61 hn62 => ?_))
    rw [(show List.flatMap strc ([⟨#[98, 117, 114, 115, 116]⟩] ++ [itoaT A]) ++ [.string (itoaT B)] = List.flatMap strc (([⟨#[98, 117, 114, 115, 116]⟩] ++ [itoaT A]) ++ [itoaT B]) from (List.flatMap_append (xs := [⟨#[98, 117, 114, 115, 116]⟩] ++ [itoaT A]) (ys := [itoaT B])).symm)] at hp61
    refine OPS.batch 1 {} [] [1, 5, 6] [.pointer (some ⟨g3, 0, none⟩), .pointer (some ⟨g18, 0, none⟩), .slice a58 (1 + 1 + 1) c59] .nil (by kernel_rfl) (fun b63 => ?_)
    refine OPS.nil ?_
    refine thn_n ?_
    refine WP.seq ?_
    refine WP.seq ?_
    refine WP.pure {} [.bool false] [1, 5, 6, 38] [.pointer (some ⟨g3, 0, none⟩), .pointer (some ⟨g18, 0, none⟩), .slice a58 (1 + 1 + 1) c59, .bool false] (.cons (Ld.row1 (P := Tryd.prog) (t := 4) (o := 3) (v := .bool false) hp61.get3 (by kernel_rfl)) .nil) (by kernel_rfl) (fun b64 => ?_)
    refine thn_n ?_
    refine WP.condF rfl ?_
    refine WP.skip ?_
    refine thn_n ?_
    refine WP.seq ?_
    refine WP.seq ?_
    refine WP.pure {} [.bool false] [1, 6, 46] [.pointer (some ⟨g3, 0, none⟩), .slice a58 (1 + 1 + 1) c59, .bool false] (.cons (Ld.row1 (P := Tryd.prog) (t := 4) (o := 4) (v := .bool false) hp61.get3 (by kernel_rfl)) .nil) (by kernel_rfl) (fun b65 => ?_)
    refine thn_n ?_
    refine WP.condF rfl ?_
    refine WP.skip ?_
    refine thn_n ?_
    refine WP.seq ?_
    refine WP.seq ?_
    refine WP.pure {} [.slice L.a L.n L.c] [6, 55, 56, 57] [.slice a58 (1 + 1 + 1) c59, .slice L.a L.n L.c, .int .i64 ((L.n : Nat) : Int), .int .i64 0] (.cons (Ld.row1 (P := Tryd.prog) (t := 29) (o := 5) (v := .slice L.a L.n L.c) hp61.get4 (by kernel_rfl)) .nil) (by kernel_rfl) (fun b66 => ?_)
    refine thn_n ?_
    refine WP.block ?_
    refine WP.loop (fun mz_ e67 w68 => ∃ (j : Nat) (xs : List ByteArray) (ao : Option Addr) (no : Nat) (co : Nat), mz_ = l.length - j ∧ (j ≤ l.length ∧ xs = [⟨#[98, 117, 114, 115, 116]⟩, itoaT A, itoaT B] ++ (l.take j).map itoaT) ∧ List.map e67 [6, 55, 56, 57] = [.slice ao no co, .slice L.a L.n L.c, .int .i64 ((L.n : Nat) : Int), .int .i64 (j : Int)] ∧ Hp w Non [Res.own 9 1 (.slice ao no co) no (List.flatMap strc xs), Res.row g55 [.string (itoaT B)] 9, Res.row g35 [.string (itoaT A)] 9, Res.row g18 [.string ⟨#[98, 117, 114, 115, 116]⟩, .bool true, .bool true, .bool false, .bool false, .bool true, .bool false] 56, Res.row g3 [.int .i64 9, .int .i64 A, .int .i64 B, .string Ky, .slice V.a V.n V.c, .slice L.a L.n L.c] 31] w68) (l.length - (0)) ⟨0, ([⟨#[98, 117, 114, 115, 116]⟩] ++ [itoaT A]) ++ [itoaT B], a58, 1 + 1 + 1, c59, rfl, ⟨by omega, rfl⟩, by kernel_rfl, ((((((hp61.pull4).pull4).pull4).pull3).pull4).sub (.cons_cons _ (.cons_cons _ (.cons_cons _ (.cons_cons _ (.cons_cons _ (.slnil)))))))⟩ ?_
    rintro _ e67 w68 ⟨j, xs, ao, no, co, rfl, hI70, hE71, hp69⟩
    obtain ⟨b72, rfl⟩ := toMk hE71
    clear hE71
    obtain ⟨pa, pb⟩ := hI70
    have pe := own_flat (sz := 1) (fun _ => rfl) (by decide) hp69.get0
    have pl : xs.length = 3 + j := by rw [pb, List.length_append, List.length_map, List.length_take]; simp; omega
    have hlj : j < l.length → inI l[j]! := fun q => hi.2.2 _ (List.mem_of_getElem? (get_bang q))
    unfold inI at hlj
    refine WP.seq ?_
    refine WP.pure {} [] [6, 55, 56, 57, 58] [.slice ao no co, .slice L.a L.n L.c, .int .i64 ((L.n : Nat) : Int), .int .i64 (j : Int), .bool (decide ((j : Int) < ((L.n : Nat) : Int)))] .nil (by kernel_rfl) (fun b73 => ?_)
    refine thn_n ?_
    refine WP.seq ?_
    refine WP.test (p := (j : Int) < ((L.n : Nat) : Int)) rfl Bp.dec (fun h74 => ?_) (fun h74 => ?_)
    · refine WP.skip ?_
      refine thn_n ?_
      refine WP.seq ?_
      refine WP.block ?_
      refine WP.seq ?_
      have hy76 : (l)[j]? = some l[j]! := get_bang (by first | (omega) | (simp only [List.length_append, List.length_cons, List.length_nil]; omega) | (simp only [List.length_take, List.length_append, List.length_cons, List.length_nil]; omega))
      refine WP.pure {} [.int .i64 (l[j]!)] [6, 8, 55, 56, 57] [.slice ao no co, .int .i64 (l[j]!), .slice L.a L.n L.c, .int .i64 ((L.n : Nat) : Int), .int .i64 (j : Int)] (.cons (show InB ((j : Int)) (L.n) from ⟨by omega, by omega⟩) (.cons ((hL.at hp69).some (by omega)) (.cons (Ld.add0 (Ld.el1 (P := Tryd.prog) (t := 3) (hL.at hp69).rd 1 (fun _ => rfl) hy76 (o := 0) (v := .int .i64 (l[j]!)) (by kernel_rfl))) .nil))) (by kernel_rfl) (fun b77 => ?_)
      refine thn_n ?_
      refine WP.region _ rfl (by kernel_rfl) ?_
      refine OPS.batch 2 {} [] [55, 56, 57, 61, 62] [.slice L.a L.n L.c, .int .i64 ((L.n : Nat) : Int), .int .i64 (j : Int), .slice ao no co, .int .i64 (l[j]!)] .nil (by kernel_rfl) (fun b78 => ?_)
      refine OPS.cons (opStep.call (some 63) [.int .i64 (l[j]!)] (by kernel_rfl) (itoa_c (l[j]!) (by omega) (by omega) _ (hl.lib.fram hp69.fr)) ?_)
      rintro _ w81 ⟨rfl, hf82⟩
      refine ⟨_, rfl, ?_⟩
      have hp83 := hp69.step hf82
      refine OPS.cons (opStep.buildSlice (E := 9) hp83 [.string (itoaT (l[j]!))] (by kernel_rfl) (fun g86 w84 hp85 => ?_))
      refine OPS.cons (opStep.append1 [.string (itoaT (l[j]!))] hp85 16 (by kernel_rfl) rfl rfl rfl (SlR.row (n := 1) hp85.get0 rfl).rd (List.all_eq_true.1 (by kernel_rfl)) (by decide) (by omega) (by omega) (fun a89 c90 w91 hp92 hn93 => ?_))
      rw [(show List.flatMap strc xs ++ [.string (itoaT (l[j]!))] = List.flatMap strc (xs ++ [itoaT (l[j]!)]) from (List.flatMap_append (xs := xs) (ys := [itoaT (l[j]!)])).symm)] at hp92
      refine OPS.batch 1 {} [] [6, 55, 56, 57] [.slice a89 (no + 1) c90, .slice L.a L.n L.c, .int .i64 ((L.n : Nat) : Int), .int .i64 (j : Int)] .nil (by kernel_rfl) (fun b94 => ?_)
      refine OPS.nil ?_
      refine blk_n ?_
      refine thn_n ?_
      refine WP.pure {} [] [6, 55, 56, 57] [.slice a89 (no + 1) c90, .slice L.a L.n L.c, .int .i64 ((L.n : Nat) : Int), .int .i64 ((j : Int) + 1)] (.cons (show Rng .i64 ((j : Int) + 1) from Rng.i64 (by omega)) .nil) (by kernel_rfl) (fun b95 => ?_)
      refine thn_n ?_
      exact ⟨l.length - (j + 1), (by omega), j + 1, xs ++ [itoaT (l[j]!)], a89, no + 1, c90, rfl, ⟨by omega, by rw [pb, List.take_succ_eq_append_getElem (by omega), List.map_append, ← List.append_assoc]; rw [getElem!_pos l j (by omega)]; rfl⟩, by kernel_rfl, (hp92.sub (.cons _ (.cons_cons _ (.cons_cons _ (.cons_cons _ (.cons_cons _ (.cons_cons _ (.slnil))))))))⟩
    · refine WP.exit ?_
      refine thn_x ?_
      refine thn_x ?_
      refine blk_hit ?_
      refine thn_n ?_
      refine WP.seq ?_
      obtain rfl : j = l.length := by omega
      have hwe : joinB xs = lineS ⟨9, A, B, Ky, valAt w V, l⟩ := by rw [pb, List.take_of_length_le (Nat.le_refl _)]; rfl
      refine WP.region _ rfl (by kernel_rfl) ?_
      refine OPS.batch 1 {} [] [67] [.slice ao no co] .nil (by kernel_rfl) (fun b96 => ?_)
      have hp99 := hp69.pull0
      have hjl := own_flat (sz := 1) (fun _ => rfl) (by decide) hp99.get0
      refine OPS.cons (opStep.call (some 68) [.slice ao no co, .string ⟨#[32]⟩] (by kernel_rfl) (join_c (by omega) (by omega) (by rw [hwe]; exact hjz) hp99) ?_)
      rintro _ w100 ⟨rfl, hf101⟩
      refine ⟨_, rfl, ?_⟩
      have hp102 := hp99.step hf101
      refine OPS.batch 2 {} [] [2, 3] [.string (joinB xs), .int .i64 0] .nil (by kernel_rfl) (fun b103 => ?_)
      refine OPS.nil ?_
      refine thn_n ?_
      refine WP.ret ?_
      refine bodyQ.of _ rfl [.string (joinB xs), .int .i64 0] ⟨rfl, rfl, trivial⟩ ?_
      have hck : chkI ⟨9, A, B, Ky, valAt w V, l⟩ = 0 := by have h_ := h13; omega
      exact ⟨by simp only [pack]; rw [hwe, hck, lineV_ok (chk_ok hck)], hp102.fr⟩

theorem ln_k10 (A B : Int) (Ky : ByteArray) (V L : SlH) (l : List Int) (w : World) (hl : LibS w) (hx : StR w Tr ⟨10, A, B, Ky, V, L⟩ ⟨10, A, B, Ky, valAt w V, l⟩) (hs : smS ⟨10, A, B, Ky, valAt w V, l⟩) :
    Calls Tryd.prog 12 #[GStep.val (⟨10, A, B, Ky, V, L⟩ : GStep)] w (fun r_ w' => r_ = .returned (.tuple #[.string (lineV ⟨10, A, B, Ky, valAt w V, l⟩), .int .i64 (chkI ⟨10, A, B, Ky, valAt w V, l⟩)]) ∧ Fram Non w w') := by
  have hvb := hx.vb
  have hn := hx.ln
  have hL := hx.lr
  simp only at hvb hn hL
  have hi := hs.1
  have hA := hi.1
  have hB := hi.2.1
  unfold inI at hA hB
  have hsz1 := hs.2.1
  have hsz2 := hs.2.2.1
  have hsz3 := hs.2.2.2
  simp only at hA hB hsz1 hsz2 hsz3
  have hjz : (lineS ⟨10, A, B, Ky, valAt w V, l⟩).size ≤ 140737488355328 := by have h_ := line_size hs; simp only at h_; omega
  refine calls_of Tryd.func12 rfl 69 rfl (by simp) ?_
  have hp0 := Hp.init w
  have he0 : List.map (env0 [GStep.val (⟨10, A, B, Ky, V, L⟩ : GStep)]) [0] = [GStep.val (⟨10, A, B, Ky, V, L⟩ : GStep)] := by kernel_rfl
  obtain ⟨b0, he0⟩ := toMk he0
  rw [he0]
  clear he0
  refine WP.seq ?_
  refine WP.region _ rfl (by kernel_rfl) ?_
  refine OPS.cons (opStep.box hp0 [.int .i64 10, .int .i64 A, .int .i64 B, .string Ky, .slice V.a V.n V.c, .slice L.a L.n L.c] (by kernel_rfl) (fun g3 w1 hp2 => ?_))
  refine OPS.batch 2 {} [] [1] [.pointer (some ⟨g3, 0, none⟩)] .nil (by kernel_rfl) (fun b4 => ?_)
  refine OPS.nil ?_
  refine thn_n ?_
  refine WP.seq ?_
  refine WP.seq ?_
  refine WP.region _ rfl (by kernel_rfl) ?_
  refine OPS.batch 1 {} [GStep.val (⟨10, A, B, Ky, V, L⟩ : GStep)] [1, 9] [.pointer (some ⟨g3, 0, none⟩), GStep.val (⟨10, A, B, Ky, V, L⟩ : GStep)] (.cons (show Ld Tryd.prog w1 31 ⟨g3, 0, none⟩ (GStep.val (⟨10, A, B, Ky, V, L⟩ : GStep)) from Ld.rowN (cs := [.int .i64 10, .int .i64 A, .int .i64 B, .string Ky, .slice V.a V.n V.c, .slice L.a L.n L.c]) hp2.get0 (by kernel_rfl)) .nil) (by kernel_rfl) (fun b5 => ?_)
  refine OPS.cons (opStep.call (some 10) [GStep.val (⟨10, A, B, Ky, V, L⟩ : GStep)] (by kernel_rfl) (sc_Check _ (⟨10, A, B, Ky, valAt w V, l⟩ : StepP) _ (hl.fram hp2.fr) (hx.fram hp2.fr)) ?_)
  rintro _ w8 ⟨rfl, hf9⟩
  refine ⟨_, rfl, ?_⟩
  have hp10 := hp2.step hf9
  refine OPS.batch 1 {} [] [1, 4] [.pointer (some ⟨g3, 0, none⟩), .int .i64 (chkI (⟨10, A, B, Ky, valAt w V, l⟩ : StepP))] .nil (by kernel_rfl) (fun b11 => ?_)
  refine OPS.nil ?_
  refine thn_n ?_
  refine WP.seq ?_
  refine WP.pure {} [] [1, 4, 12] [.pointer (some ⟨g3, 0, none⟩), .int .i64 (chkI (⟨10, A, B, Ky, valAt w V, l⟩ : StepP)), .bool (decide (¬ ((chkI (⟨10, A, B, Ky, valAt w V, l⟩ : StepP)) = 0)))] .nil (by kernel_rfl) (fun b12 => ?_)
  refine thn_n ?_
  refine WP.test (p := ¬ ((chkI (⟨10, A, B, Ky, valAt w V, l⟩ : StepP)) = 0)) rfl Bp.dec (fun h13 => ?_) (fun h13 => ?_)
  · refine WP.seq ?_
    refine WP.pure {} [] [2, 3] [.string ⟨#[]⟩, .int .i64 (chkI (⟨10, A, B, Ky, valAt w V, l⟩ : StepP))] .nil (by kernel_rfl) (fun b14 => ?_)
    refine thn_n ?_
    refine WP.ret ?_
    refine thn_r ?_
    refine bodyQ.of _ rfl [.string ⟨#[]⟩, .int .i64 (chkI (⟨10, A, B, Ky, valAt w V, l⟩ : StepP))] ⟨rfl, rfl, trivial⟩ ?_
    exact ⟨by simp only [pack]; rw [lineV_no h13], hp10.fr⟩
  · replace h13 := Classical.not_not.1 h13
    refine WP.skip ?_
    refine thn_n ?_
    refine WP.seq ?_
    refine WP.region _ rfl (by kernel_rfl) ?_
    refine OPS.batch 4 {} [.int .i64 10, .agg #[.string ⟨#[99, 117, 116]⟩, .bool true, .bool true, .bool false, .bool false, .bool false, .bool false]] [1, 17] [.pointer (some ⟨g3, 0, none⟩), .agg #[.string ⟨#[99, 117, 116]⟩, .bool true, .bool true, .bool false, .bool false, .bool false, .bool false]] (.cons (Ld.row1 (P := Tryd.prog) (t := 3) (o := 0) (v := .int .i64 10) hp10.get0 (by kernel_rfl)) (.cons (show InB (10) (17) from ⟨by omega, by omega⟩) (.cons (show Ld Tryd.prog w8 56 ⟨0, 70, none⟩ (.agg #[.string ⟨#[99, 117, 116]⟩, .bool true, .bool true, .bool false, .bool false, .bool false, .bool false]) from Ld.rowN (cs := [.string ⟨#[99, 117, 116]⟩, .bool true, .bool true, .bool false, .bool false, .bool false, .bool false]) (row_at hl.tab hp10.fr) (by kernel_rfl)) .nil))) (by kernel_rfl) (fun b15 => ?_)
    refine OPS.cons (opStep.alloc hp10 [.string ByteArray.empty, .bool false, .bool false, .bool false, .bool false, .bool false, .bool false] (by kernel_rfl) (fun g18 w16 hp17 => ?_))
    refine OPS.cons (opStep.store0 hp17 rfl [.string ⟨#[99, 117, 116]⟩, .bool true, .bool true, .bool false, .bool false, .bool false, .bool false] [.string ⟨#[99, 117, 116]⟩, .bool true, .bool true, .bool false, .bool false, .bool false, .bool false] (by kernel_rfl) (fun w19 hp20 => ?_))
    refine OPS.nil ?_
    refine thn_n ?_
    refine WP.seq ?_
    refine WP.region _ rfl (by kernel_rfl) ?_
    refine OPS.batch 2 {} [.string ⟨#[99, 117, 116]⟩] [1, 5, 19] [.pointer (some ⟨g3, 0, none⟩), .pointer (some ⟨g18, 0, none⟩), .string ⟨#[99, 117, 116]⟩] (.cons (Ld.row1 (P := Tryd.prog) (t := 9) (o := 0) (v := .string ⟨#[99, 117, 116]⟩) hp20.get0 (by kernel_rfl)) .nil) (by kernel_rfl) (fun b21 => ?_)
    refine OPS.cons (opStep.buildSlice (E := 9) hp20 [.string ⟨#[99, 117, 116]⟩] (by kernel_rfl) (fun g24 w22 hp23 => ?_))
    refine OPS.batch 1 {} [] [1, 5, 6] [.pointer (some ⟨g3, 0, none⟩), .pointer (some ⟨g18, 0, none⟩), .slice (some ⟨g24, 0, none⟩) 1 1] .nil (by kernel_rfl) (fun b25 => ?_)
    refine OPS.nil ?_
    refine thn_n ?_
    refine WP.seq ?_
    refine WP.seq ?_
    refine WP.pure {} [.bool true] [1, 5, 6, 22] [.pointer (some ⟨g3, 0, none⟩), .pointer (some ⟨g18, 0, none⟩), .slice (some ⟨g24, 0, none⟩) 1 1, .bool true] (.cons (Ld.row1 (P := Tryd.prog) (t := 4) (o := 1) (v := .bool true) hp23.get1 (by kernel_rfl)) .nil) (by kernel_rfl) (fun b26 => ?_)
    refine thn_n ?_
    refine WP.condT rfl ?_
    refine WP.region _ rfl (by kernel_rfl) ?_
    refine OPS.batch 3 {} [.int .i64 A] [1, 5, 23, 25] [.pointer (some ⟨g3, 0, none⟩), .pointer (some ⟨g18, 0, none⟩), .slice (some ⟨g24, 0, none⟩) 1 1, .int .i64 A] (.cons (Ld.row1 (P := Tryd.prog) (t := 3) (o := 1) (v := .int .i64 A) hp23.get2 (by kernel_rfl)) .nil) (by kernel_rfl) (fun b27 => ?_)
    refine OPS.cons (opStep.call (some 26) [.int .i64 A] (by kernel_rfl) (itoa_c A (by omega) (by omega) _ (hl.lib.fram hp23.fr)) ?_)
    rintro _ w30 ⟨rfl, hf31⟩
    refine ⟨_, rfl, ?_⟩
    have hp32 := hp23.step hf31
    refine OPS.cons (opStep.buildSlice (E := 9) hp32 [.string (itoaT A)] (by kernel_rfl) (fun g35 w33 hp34 => ?_))
    have hp38 := hp34.pull1
    have hp39 := (show Hp w Non [Res.own 9 1 (.slice (some ⟨g24, 0, none⟩) 1 1) 1 (List.flatMap strc [⟨#[99, 117, 116]⟩]), Res.row g35 [.string (itoaT A)] 9, Res.row g18 [.string ⟨#[99, 117, 116]⟩, .bool true, .bool true, .bool false, .bool false, .bool false, .bool false] 56, Res.row g3 [.int .i64 10, .int .i64 A, .int .i64 B, .string Ky, .slice V.a V.n V.c, .slice L.a L.n L.c] 31] w33 from hp38.rowOwnN (sz := 1) (n := 1) rfl (by decide))
    refine OPS.cons (opStep.append0 [.string (itoaT A)] hp39 16 (by kernel_rfl) rfl rfl rfl (SlR.row (n := 1) hp39.get1 rfl).rd (List.all_eq_true.1 (by kernel_rfl)) (by decide) (by omega) (by omega) (fun a40 c41 w42 hp43 hn44 => ?_))
    rw [(show List.flatMap strc [⟨#[99, 117, 116]⟩] ++ [.string (itoaT A)] = List.flatMap strc ([⟨#[99, 117, 116]⟩] ++ [itoaT A]) from (List.flatMap_append (xs := [⟨#[99, 117, 116]⟩]) (ys := [itoaT A])).symm)] at hp43
    refine OPS.batch 1 {} [] [1, 5, 6] [.pointer (some ⟨g3, 0, none⟩), .pointer (some ⟨g18, 0, none⟩), .slice a40 (1 + 1) c41] .nil (by kernel_rfl) (fun b45 => ?_)
    refine OPS.nil ?_
    refine thn_n ?_
    refine WP.seq ?_
    refine WP.seq ?_
    refine WP.pure {} [.bool true] [1, 5, 6, 30] [.pointer (some ⟨g3, 0, none⟩), .pointer (some ⟨g18, 0, none⟩), .slice a40 (1 + 1) c41, .bool true] (.cons (Ld.row1 (P := Tryd.prog) (t := 4) (o := 2) (v := .bool true) hp43.get2 (by kernel_rfl)) .nil) (by kernel_rfl) (fun b46 => ?_)
    refine thn_n ?_
    refine WP.condT rfl ?_
    refine WP.region _ rfl (by kernel_rfl) ?_
    refine OPS.batch 3 {} [.int .i64 B] [1, 5, 31, 33] [.pointer (some ⟨g3, 0, none⟩), .pointer (some ⟨g18, 0, none⟩), .slice a40 (1 + 1) c41, .int .i64 B] (.cons (Ld.row1 (P := Tryd.prog) (t := 3) (o := 2) (v := .int .i64 B) hp43.get3 (by kernel_rfl)) .nil) (by kernel_rfl) (fun b47 => ?_)
    refine OPS.cons (opStep.call (some 34) [.int .i64 B] (by kernel_rfl) (itoa_c B (by omega) (by omega) _ (hl.lib.fram hp43.fr)) ?_)
    rintro _ w50 ⟨rfl, hf51⟩
    refine ⟨_, rfl, ?_⟩
    have hp52 := hp43.step hf51
    refine OPS.cons (opStep.buildSlice (E := 9) hp52 [.string (itoaT B)] (by kernel_rfl) (fun g55 w53 hp54 => ?_))
    refine OPS.cons (opStep.append1 [.string (itoaT B)] hp54 16 (by kernel_rfl) rfl rfl rfl (SlR.row (n := 1) hp54.get0 rfl).rd (List.all_eq_true.1 (by kernel_rfl)) (by decide) (by omega) (by omega) (fun a58 c59 w60 hp61 hn62 => ?_))
    rw [(show List.flatMap strc ([⟨#[99, 117, 116]⟩] ++ [itoaT A]) ++ [.string (itoaT B)] = List.flatMap strc (([⟨#[99, 117, 116]⟩] ++ [itoaT A]) ++ [itoaT B]) from (List.flatMap_append (xs := [⟨#[99, 117, 116]⟩] ++ [itoaT A]) (ys := [itoaT B])).symm)] at hp61
    refine OPS.batch 1 {} [] [1, 5, 6] [.pointer (some ⟨g3, 0, none⟩), .pointer (some ⟨g18, 0, none⟩), .slice a58 (1 + 1 + 1) c59] .nil (by kernel_rfl) (fun b63 => ?_)
    refine OPS.nil ?_
    refine thn_n ?_
    refine WP.seq ?_
    refine WP.seq ?_
    refine WP.pure {} [.bool false] [1, 5, 6, 38] [.pointer (some ⟨g3, 0, none⟩), .pointer (some ⟨g18, 0, none⟩), .slice a58 (1 + 1 + 1) c59, .bool false] (.cons (Ld.row1 (P := Tryd.prog) (t := 4) (o := 3) (v := .bool false) hp61.get3 (by kernel_rfl)) .nil) (by kernel_rfl) (fun b64 => ?_)
    refine thn_n ?_
    refine WP.condF rfl ?_
    refine WP.skip ?_
    refine thn_n ?_
    refine WP.seq ?_
    refine WP.seq ?_
    refine WP.pure {} [.bool false] [1, 6, 46] [.pointer (some ⟨g3, 0, none⟩), .slice a58 (1 + 1 + 1) c59, .bool false] (.cons (Ld.row1 (P := Tryd.prog) (t := 4) (o := 4) (v := .bool false) hp61.get3 (by kernel_rfl)) .nil) (by kernel_rfl) (fun b65 => ?_)
    refine thn_n ?_
    refine WP.condF rfl ?_
    refine WP.skip ?_
    refine thn_n ?_
    refine WP.seq ?_
    refine WP.seq ?_
    refine WP.pure {} [.slice L.a L.n L.c] [6, 55, 56, 57] [.slice a58 (1 + 1 + 1) c59, .slice L.a L.n L.c, .int .i64 ((L.n : Nat) : Int), .int .i64 0] (.cons (Ld.row1 (P := Tryd.prog) (t := 29) (o := 5) (v := .slice L.a L.n L.c) hp61.get4 (by kernel_rfl)) .nil) (by kernel_rfl) (fun b66 => ?_)
    refine thn_n ?_
    refine WP.block ?_
    refine WP.loop (fun mz_ e67 w68 => ∃ (j : Nat) (xs : List ByteArray) (ao : Option Addr) (no : Nat) (co : Nat), mz_ = l.length - j ∧ (j ≤ l.length ∧ xs = [⟨#[99, 117, 116]⟩, itoaT A, itoaT B] ++ (l.take j).map itoaT) ∧ List.map e67 [6, 55, 56, 57] = [.slice ao no co, .slice L.a L.n L.c, .int .i64 ((L.n : Nat) : Int), .int .i64 (j : Int)] ∧ Hp w Non [Res.own 9 1 (.slice ao no co) no (List.flatMap strc xs), Res.row g55 [.string (itoaT B)] 9, Res.row g35 [.string (itoaT A)] 9, Res.row g18 [.string ⟨#[99, 117, 116]⟩, .bool true, .bool true, .bool false, .bool false, .bool false, .bool false] 56, Res.row g3 [.int .i64 10, .int .i64 A, .int .i64 B, .string Ky, .slice V.a V.n V.c, .slice L.a L.n L.c] 31] w68) (l.length - (0)) ⟨0, ([⟨#[99, 117, 116]⟩] ++ [itoaT A]) ++ [itoaT B], a58, 1 + 1 + 1, c59, rfl, ⟨by omega, rfl⟩, by kernel_rfl, ((((((hp61.pull4).pull4).pull4).pull3).pull4).sub (.cons_cons _ (.cons_cons _ (.cons_cons _ (.cons_cons _ (.cons_cons _ (.slnil)))))))⟩ ?_
    rintro _ e67 w68 ⟨j, xs, ao, no, co, rfl, hI70, hE71, hp69⟩
    obtain ⟨b72, rfl⟩ := toMk hE71
    clear hE71
    obtain ⟨pa, pb⟩ := hI70
    have pe := own_flat (sz := 1) (fun _ => rfl) (by decide) hp69.get0
    have pl : xs.length = 3 + j := by rw [pb, List.length_append, List.length_map, List.length_take]; simp; omega
    have hlj : j < l.length → inI l[j]! := fun q => hi.2.2 _ (List.mem_of_getElem? (get_bang q))
    unfold inI at hlj
    refine WP.seq ?_
    refine WP.pure {} [] [6, 55, 56, 57, 58] [.slice ao no co, .slice L.a L.n L.c, .int .i64 ((L.n : Nat) : Int), .int .i64 (j : Int), .bool (decide ((j : Int) < ((L.n : Nat) : Int)))] .nil (by kernel_rfl) (fun b73 => ?_)
    refine thn_n ?_
    refine WP.seq ?_
    refine WP.test (p := (j : Int) < ((L.n : Nat) : Int)) rfl Bp.dec (fun h74 => ?_) (fun h74 => ?_)
    · refine WP.skip ?_
      refine thn_n ?_
      refine WP.seq ?_
      refine WP.block ?_
      refine WP.seq ?_
      have hy76 : (l)[j]? = some l[j]! := get_bang (by first | (omega) | (simp only [List.length_append, List.length_cons, List.length_nil]; omega) | (simp only [List.length_take, List.length_append, List.length_cons, List.length_nil]; omega))
      refine WP.pure {} [.int .i64 (l[j]!)] [6, 8, 55, 56, 57] [.slice ao no co, .int .i64 (l[j]!), .slice L.a L.n L.c, .int .i64 ((L.n : Nat) : Int), .int .i64 (j : Int)] (.cons (show InB ((j : Int)) (L.n) from ⟨by omega, by omega⟩) (.cons ((hL.at hp69).some (by omega)) (.cons (Ld.add0 (Ld.el1 (P := Tryd.prog) (t := 3) (hL.at hp69).rd 1 (fun _ => rfl) hy76 (o := 0) (v := .int .i64 (l[j]!)) (by kernel_rfl))) .nil))) (by kernel_rfl) (fun b77 => ?_)
      refine thn_n ?_
      refine WP.region _ rfl (by kernel_rfl) ?_
      refine OPS.batch 2 {} [] [55, 56, 57, 61, 62] [.slice L.a L.n L.c, .int .i64 ((L.n : Nat) : Int), .int .i64 (j : Int), .slice ao no co, .int .i64 (l[j]!)] .nil (by kernel_rfl) (fun b78 => ?_)
      refine OPS.cons (opStep.call (some 63) [.int .i64 (l[j]!)] (by kernel_rfl) (itoa_c (l[j]!) (by omega) (by omega) _ (hl.lib.fram hp69.fr)) ?_)
      rintro _ w81 ⟨rfl, hf82⟩
      refine ⟨_, rfl, ?_⟩
      have hp83 := hp69.step hf82
      refine OPS.cons (opStep.buildSlice (E := 9) hp83 [.string (itoaT (l[j]!))] (by kernel_rfl) (fun g86 w84 hp85 => ?_))
      refine OPS.cons (opStep.append1 [.string (itoaT (l[j]!))] hp85 16 (by kernel_rfl) rfl rfl rfl (SlR.row (n := 1) hp85.get0 rfl).rd (List.all_eq_true.1 (by kernel_rfl)) (by decide) (by omega) (by omega) (fun a89 c90 w91 hp92 hn93 => ?_))
      rw [(show List.flatMap strc xs ++ [.string (itoaT (l[j]!))] = List.flatMap strc (xs ++ [itoaT (l[j]!)]) from (List.flatMap_append (xs := xs) (ys := [itoaT (l[j]!)])).symm)] at hp92
      refine OPS.batch 1 {} [] [6, 55, 56, 57] [.slice a89 (no + 1) c90, .slice L.a L.n L.c, .int .i64 ((L.n : Nat) : Int), .int .i64 (j : Int)] .nil (by kernel_rfl) (fun b94 => ?_)
      refine OPS.nil ?_
      refine blk_n ?_
      refine thn_n ?_
      refine WP.pure {} [] [6, 55, 56, 57] [.slice a89 (no + 1) c90, .slice L.a L.n L.c, .int .i64 ((L.n : Nat) : Int), .int .i64 ((j : Int) + 1)] (.cons (show Rng .i64 ((j : Int) + 1) from Rng.i64 (by omega)) .nil) (by kernel_rfl) (fun b95 => ?_)
      refine thn_n ?_
      exact ⟨l.length - (j + 1), (by omega), j + 1, xs ++ [itoaT (l[j]!)], a89, no + 1, c90, rfl, ⟨by omega, by rw [pb, List.take_succ_eq_append_getElem (by omega), List.map_append, ← List.append_assoc]; rw [getElem!_pos l j (by omega)]; rfl⟩, by kernel_rfl, (hp92.sub (.cons _ (.cons_cons _ (.cons_cons _ (.cons_cons _ (.cons_cons _ (.cons_cons _ (.slnil))))))))⟩
    · refine WP.exit ?_
      refine thn_x ?_
      refine thn_x ?_
      refine blk_hit ?_
      refine thn_n ?_
      refine WP.seq ?_
      obtain rfl : j = l.length := by omega
      have hwe : joinB xs = lineS ⟨10, A, B, Ky, valAt w V, l⟩ := by rw [pb, List.take_of_length_le (Nat.le_refl _)]; rfl
      refine WP.region _ rfl (by kernel_rfl) ?_
      refine OPS.batch 1 {} [] [67] [.slice ao no co] .nil (by kernel_rfl) (fun b96 => ?_)
      have hp99 := hp69.pull0
      have hjl := own_flat (sz := 1) (fun _ => rfl) (by decide) hp99.get0
      refine OPS.cons (opStep.call (some 68) [.slice ao no co, .string ⟨#[32]⟩] (by kernel_rfl) (join_c (by omega) (by omega) (by rw [hwe]; exact hjz) hp99) ?_)
      rintro _ w100 ⟨rfl, hf101⟩
      refine ⟨_, rfl, ?_⟩
      have hp102 := hp99.step hf101
      refine OPS.batch 2 {} [] [2, 3] [.string (joinB xs), .int .i64 0] .nil (by kernel_rfl) (fun b103 => ?_)
      refine OPS.nil ?_
      refine thn_n ?_
      refine WP.ret ?_
      refine bodyQ.of _ rfl [.string (joinB xs), .int .i64 0] ⟨rfl, rfl, trivial⟩ ?_
      have hck : chkI ⟨10, A, B, Ky, valAt w V, l⟩ = 0 := by have h_ := h13; omega
      exact ⟨by simp only [pack]; rw [hwe, hck, lineV_ok (chk_ok hck)], hp102.fr⟩

theorem ln_k12 (A B : Int) (Ky : ByteArray) (V L : SlH) (l : List Int) (w : World) (hl : LibS w) (hx : StR w Tr ⟨12, A, B, Ky, V, L⟩ ⟨12, A, B, Ky, valAt w V, l⟩) (hs : smS ⟨12, A, B, Ky, valAt w V, l⟩) :
    Calls Tryd.prog 12 #[GStep.val (⟨12, A, B, Ky, V, L⟩ : GStep)] w (fun r_ w' => r_ = .returned (.tuple #[.string (lineV ⟨12, A, B, Ky, valAt w V, l⟩), .int .i64 (chkI ⟨12, A, B, Ky, valAt w V, l⟩)]) ∧ Fram Non w w') := by
  have hvb := hx.vb
  have hn := hx.ln
  have hL := hx.lr
  simp only at hvb hn hL
  have hi := hs.1
  have hA := hi.1
  have hB := hi.2.1
  unfold inI at hA hB
  have hsz1 := hs.2.1
  have hsz2 := hs.2.2.1
  have hsz3 := hs.2.2.2
  simp only at hA hB hsz1 hsz2 hsz3
  have hjz : (lineS ⟨12, A, B, Ky, valAt w V, l⟩).size ≤ 140737488355328 := by have h_ := line_size hs; simp only at h_; omega
  refine calls_of Tryd.func12 rfl 69 rfl (by simp) ?_
  have hp0 := Hp.init w
  have he0 : List.map (env0 [GStep.val (⟨12, A, B, Ky, V, L⟩ : GStep)]) [0] = [GStep.val (⟨12, A, B, Ky, V, L⟩ : GStep)] := by kernel_rfl
  obtain ⟨b0, he0⟩ := toMk he0
  rw [he0]
  clear he0
  refine WP.seq ?_
  refine WP.region _ rfl (by kernel_rfl) ?_
  refine OPS.cons (opStep.box hp0 [.int .i64 12, .int .i64 A, .int .i64 B, .string Ky, .slice V.a V.n V.c, .slice L.a L.n L.c] (by kernel_rfl) (fun g3 w1 hp2 => ?_))
  refine OPS.batch 2 {} [] [1] [.pointer (some ⟨g3, 0, none⟩)] .nil (by kernel_rfl) (fun b4 => ?_)
  refine OPS.nil ?_
  refine thn_n ?_
  refine WP.seq ?_
  refine WP.seq ?_
  refine WP.region _ rfl (by kernel_rfl) ?_
  refine OPS.batch 1 {} [GStep.val (⟨12, A, B, Ky, V, L⟩ : GStep)] [1, 9] [.pointer (some ⟨g3, 0, none⟩), GStep.val (⟨12, A, B, Ky, V, L⟩ : GStep)] (.cons (show Ld Tryd.prog w1 31 ⟨g3, 0, none⟩ (GStep.val (⟨12, A, B, Ky, V, L⟩ : GStep)) from Ld.rowN (cs := [.int .i64 12, .int .i64 A, .int .i64 B, .string Ky, .slice V.a V.n V.c, .slice L.a L.n L.c]) hp2.get0 (by kernel_rfl)) .nil) (by kernel_rfl) (fun b5 => ?_)
  refine OPS.cons (opStep.call (some 10) [GStep.val (⟨12, A, B, Ky, V, L⟩ : GStep)] (by kernel_rfl) (sc_Check _ (⟨12, A, B, Ky, valAt w V, l⟩ : StepP) _ (hl.fram hp2.fr) (hx.fram hp2.fr)) ?_)
  rintro _ w8 ⟨rfl, hf9⟩
  refine ⟨_, rfl, ?_⟩
  have hp10 := hp2.step hf9
  refine OPS.batch 1 {} [] [1, 4] [.pointer (some ⟨g3, 0, none⟩), .int .i64 (chkI (⟨12, A, B, Ky, valAt w V, l⟩ : StepP))] .nil (by kernel_rfl) (fun b11 => ?_)
  refine OPS.nil ?_
  refine thn_n ?_
  refine WP.seq ?_
  refine WP.pure {} [] [1, 4, 12] [.pointer (some ⟨g3, 0, none⟩), .int .i64 (chkI (⟨12, A, B, Ky, valAt w V, l⟩ : StepP)), .bool (decide (¬ ((chkI (⟨12, A, B, Ky, valAt w V, l⟩ : StepP)) = 0)))] .nil (by kernel_rfl) (fun b12 => ?_)
  refine thn_n ?_
  refine WP.test (p := ¬ ((chkI (⟨12, A, B, Ky, valAt w V, l⟩ : StepP)) = 0)) rfl Bp.dec (fun h13 => ?_) (fun h13 => ?_)
  · refine WP.seq ?_
    refine WP.pure {} [] [2, 3] [.string ⟨#[]⟩, .int .i64 (chkI (⟨12, A, B, Ky, valAt w V, l⟩ : StepP))] .nil (by kernel_rfl) (fun b14 => ?_)
    refine thn_n ?_
    refine WP.ret ?_
    refine thn_r ?_
    refine bodyQ.of _ rfl [.string ⟨#[]⟩, .int .i64 (chkI (⟨12, A, B, Ky, valAt w V, l⟩ : StepP))] ⟨rfl, rfl, trivial⟩ ?_
    exact ⟨by simp only [pack]; rw [lineV_no h13], hp10.fr⟩
  · replace h13 := Classical.not_not.1 h13
    refine WP.skip ?_
    refine thn_n ?_
    refine WP.seq ?_
    refine WP.region _ rfl (by kernel_rfl) ?_
    refine OPS.batch 4 {} [.int .i64 12, .agg #[.string ⟨#[99, 114, 97, 115, 104]⟩, .bool true, .bool false, .bool false, .bool false, .bool false, .bool true]] [1, 17] [.pointer (some ⟨g3, 0, none⟩), .agg #[.string ⟨#[99, 114, 97, 115, 104]⟩, .bool true, .bool false, .bool false, .bool false, .bool false, .bool true]] (.cons (Ld.row1 (P := Tryd.prog) (t := 3) (o := 0) (v := .int .i64 12) hp10.get0 (by kernel_rfl)) (.cons (show InB (12) (17) from ⟨by omega, by omega⟩) (.cons (show Ld Tryd.prog w8 56 ⟨0, 84, none⟩ (.agg #[.string ⟨#[99, 114, 97, 115, 104]⟩, .bool true, .bool false, .bool false, .bool false, .bool false, .bool true]) from Ld.rowN (cs := [.string ⟨#[99, 114, 97, 115, 104]⟩, .bool true, .bool false, .bool false, .bool false, .bool false, .bool true]) (row_at hl.tab hp10.fr) (by kernel_rfl)) .nil))) (by kernel_rfl) (fun b15 => ?_)
    refine OPS.cons (opStep.alloc hp10 [.string ByteArray.empty, .bool false, .bool false, .bool false, .bool false, .bool false, .bool false] (by kernel_rfl) (fun g18 w16 hp17 => ?_))
    refine OPS.cons (opStep.store0 hp17 rfl [.string ⟨#[99, 114, 97, 115, 104]⟩, .bool true, .bool false, .bool false, .bool false, .bool false, .bool true] [.string ⟨#[99, 114, 97, 115, 104]⟩, .bool true, .bool false, .bool false, .bool false, .bool false, .bool true] (by kernel_rfl) (fun w19 hp20 => ?_))
    refine OPS.nil ?_
    refine thn_n ?_
    refine WP.seq ?_
    refine WP.region _ rfl (by kernel_rfl) ?_
    refine OPS.batch 2 {} [.string ⟨#[99, 114, 97, 115, 104]⟩] [1, 5, 19] [.pointer (some ⟨g3, 0, none⟩), .pointer (some ⟨g18, 0, none⟩), .string ⟨#[99, 114, 97, 115, 104]⟩] (.cons (Ld.row1 (P := Tryd.prog) (t := 9) (o := 0) (v := .string ⟨#[99, 114, 97, 115, 104]⟩) hp20.get0 (by kernel_rfl)) .nil) (by kernel_rfl) (fun b21 => ?_)
    refine OPS.cons (opStep.buildSlice (E := 9) hp20 [.string ⟨#[99, 114, 97, 115, 104]⟩] (by kernel_rfl) (fun g24 w22 hp23 => ?_))
    refine OPS.batch 1 {} [] [1, 5, 6] [.pointer (some ⟨g3, 0, none⟩), .pointer (some ⟨g18, 0, none⟩), .slice (some ⟨g24, 0, none⟩) 1 1] .nil (by kernel_rfl) (fun b25 => ?_)
    refine OPS.nil ?_
    refine thn_n ?_
    refine WP.seq ?_
    refine WP.seq ?_
    refine WP.pure {} [.bool true] [1, 5, 6, 22] [.pointer (some ⟨g3, 0, none⟩), .pointer (some ⟨g18, 0, none⟩), .slice (some ⟨g24, 0, none⟩) 1 1, .bool true] (.cons (Ld.row1 (P := Tryd.prog) (t := 4) (o := 1) (v := .bool true) hp23.get1 (by kernel_rfl)) .nil) (by kernel_rfl) (fun b26 => ?_)
    refine thn_n ?_
    refine WP.condT rfl ?_
    refine WP.region _ rfl (by kernel_rfl) ?_
    refine OPS.batch 3 {} [.int .i64 A] [1, 5, 23, 25] [.pointer (some ⟨g3, 0, none⟩), .pointer (some ⟨g18, 0, none⟩), .slice (some ⟨g24, 0, none⟩) 1 1, .int .i64 A] (.cons (Ld.row1 (P := Tryd.prog) (t := 3) (o := 1) (v := .int .i64 A) hp23.get2 (by kernel_rfl)) .nil) (by kernel_rfl) (fun b27 => ?_)
    refine OPS.cons (opStep.call (some 26) [.int .i64 A] (by kernel_rfl) (itoa_c A (by omega) (by omega) _ (hl.lib.fram hp23.fr)) ?_)
    rintro _ w30 ⟨rfl, hf31⟩
    refine ⟨_, rfl, ?_⟩
    have hp32 := hp23.step hf31
    refine OPS.cons (opStep.buildSlice (E := 9) hp32 [.string (itoaT A)] (by kernel_rfl) (fun g35 w33 hp34 => ?_))
    have hp38 := hp34.pull1
    have hp39 := (show Hp w Non [Res.own 9 1 (.slice (some ⟨g24, 0, none⟩) 1 1) 1 (List.flatMap strc [⟨#[99, 114, 97, 115, 104]⟩]), Res.row g35 [.string (itoaT A)] 9, Res.row g18 [.string ⟨#[99, 114, 97, 115, 104]⟩, .bool true, .bool false, .bool false, .bool false, .bool false, .bool true] 56, Res.row g3 [.int .i64 12, .int .i64 A, .int .i64 B, .string Ky, .slice V.a V.n V.c, .slice L.a L.n L.c] 31] w33 from hp38.rowOwnN (sz := 1) (n := 1) rfl (by decide))
    refine OPS.cons (opStep.append0 [.string (itoaT A)] hp39 16 (by kernel_rfl) rfl rfl rfl (SlR.row (n := 1) hp39.get1 rfl).rd (List.all_eq_true.1 (by kernel_rfl)) (by decide) (by omega) (by omega) (fun a40 c41 w42 hp43 hn44 => ?_))
    rw [(show List.flatMap strc [⟨#[99, 114, 97, 115, 104]⟩] ++ [.string (itoaT A)] = List.flatMap strc ([⟨#[99, 114, 97, 115, 104]⟩] ++ [itoaT A]) from (List.flatMap_append (xs := [⟨#[99, 114, 97, 115, 104]⟩]) (ys := [itoaT A])).symm)] at hp43
    refine OPS.batch 1 {} [] [1, 5, 6] [.pointer (some ⟨g3, 0, none⟩), .pointer (some ⟨g18, 0, none⟩), .slice a40 (1 + 1) c41] .nil (by kernel_rfl) (fun b45 => ?_)
    refine OPS.nil ?_
    refine thn_n ?_
    refine WP.seq ?_
    refine WP.seq ?_
    refine WP.pure {} [.bool false] [1, 5, 6, 30] [.pointer (some ⟨g3, 0, none⟩), .pointer (some ⟨g18, 0, none⟩), .slice a40 (1 + 1) c41, .bool false] (.cons (Ld.row1 (P := Tryd.prog) (t := 4) (o := 2) (v := .bool false) hp43.get2 (by kernel_rfl)) .nil) (by kernel_rfl) (fun b46 => ?_)
    refine thn_n ?_
    refine WP.condF rfl ?_
    refine WP.skip ?_
    refine thn_n ?_
    refine WP.seq ?_
    refine WP.seq ?_
    refine WP.pure {} [.bool false] [1, 5, 6, 38] [.pointer (some ⟨g3, 0, none⟩), .pointer (some ⟨g18, 0, none⟩), .slice a40 (1 + 1) c41, .bool false] (.cons (Ld.row1 (P := Tryd.prog) (t := 4) (o := 3) (v := .bool false) hp43.get2 (by kernel_rfl)) .nil) (by kernel_rfl) (fun b47 => ?_)
    refine thn_n ?_
    refine WP.condF rfl ?_
    refine WP.skip ?_
    refine thn_n ?_
    refine WP.seq ?_
    refine WP.seq ?_
    refine WP.pure {} [.bool false] [1, 6, 46] [.pointer (some ⟨g3, 0, none⟩), .slice a40 (1 + 1) c41, .bool false] (.cons (Ld.row1 (P := Tryd.prog) (t := 4) (o := 4) (v := .bool false) hp43.get2 (by kernel_rfl)) .nil) (by kernel_rfl) (fun b48 => ?_)
    refine thn_n ?_
    refine WP.condF rfl ?_
    refine WP.skip ?_
    refine thn_n ?_
    refine WP.seq ?_
    refine WP.seq ?_
    refine WP.pure {} [.slice L.a L.n L.c] [6, 55, 56, 57] [.slice a40 (1 + 1) c41, .slice L.a L.n L.c, .int .i64 ((L.n : Nat) : Int), .int .i64 0] (.cons (Ld.row1 (P := Tryd.prog) (t := 29) (o := 5) (v := .slice L.a L.n L.c) hp43.get3 (by kernel_rfl)) .nil) (by kernel_rfl) (fun b49 => ?_)
    refine thn_n ?_
    refine WP.block ?_
    refine WP.loop (fun mz_ e50 w51 => ∃ (j : Nat) (xs : List ByteArray) (ao : Option Addr) (no : Nat) (co : Nat), mz_ = l.length - j ∧ (j ≤ l.length ∧ xs = [⟨#[99, 114, 97, 115, 104]⟩, itoaT A] ++ (l.take j).map itoaT) ∧ List.map e50 [6, 55, 56, 57] = [.slice ao no co, .slice L.a L.n L.c, .int .i64 ((L.n : Nat) : Int), .int .i64 (j : Int)] ∧ Hp w Non [Res.own 9 1 (.slice ao no co) no (List.flatMap strc xs), Res.row g35 [.string (itoaT A)] 9, Res.row g18 [.string ⟨#[99, 114, 97, 115, 104]⟩, .bool true, .bool false, .bool false, .bool false, .bool false, .bool true] 56, Res.row g3 [.int .i64 12, .int .i64 A, .int .i64 B, .string Ky, .slice V.a V.n V.c, .slice L.a L.n L.c] 31] w51) (l.length - (0)) ⟨0, [⟨#[99, 114, 97, 115, 104]⟩] ++ [itoaT A], a40, 1 + 1, c41, rfl, ⟨by omega, rfl⟩, by kernel_rfl, hp43⟩ ?_
    rintro _ e50 w51 ⟨j, xs, ao, no, co, rfl, hI53, hE54, hp52⟩
    obtain ⟨b55, rfl⟩ := toMk hE54
    clear hE54
    obtain ⟨pa, pb⟩ := hI53
    have pe := own_flat (sz := 1) (fun _ => rfl) (by decide) hp52.get0
    have pl : xs.length = 2 + j := by rw [pb, List.length_append, List.length_map, List.length_take]; simp; omega
    have hlj : j < l.length → inI l[j]! := fun q => hi.2.2 _ (List.mem_of_getElem? (get_bang q))
    unfold inI at hlj
    refine WP.seq ?_
    refine WP.pure {} [] [6, 55, 56, 57, 58] [.slice ao no co, .slice L.a L.n L.c, .int .i64 ((L.n : Nat) : Int), .int .i64 (j : Int), .bool (decide ((j : Int) < ((L.n : Nat) : Int)))] .nil (by kernel_rfl) (fun b56 => ?_)
    refine thn_n ?_
    refine WP.seq ?_
    refine WP.test (p := (j : Int) < ((L.n : Nat) : Int)) rfl Bp.dec (fun h57 => ?_) (fun h57 => ?_)
    · refine WP.skip ?_
      refine thn_n ?_
      refine WP.seq ?_
      refine WP.block ?_
      refine WP.seq ?_
      have hy59 : (l)[j]? = some l[j]! := get_bang (by first | (omega) | (simp only [List.length_append, List.length_cons, List.length_nil]; omega) | (simp only [List.length_take, List.length_append, List.length_cons, List.length_nil]; omega))
      refine WP.pure {} [.int .i64 (l[j]!)] [6, 8, 55, 56, 57] [.slice ao no co, .int .i64 (l[j]!), .slice L.a L.n L.c, .int .i64 ((L.n : Nat) : Int), .int .i64 (j : Int)] (.cons (show InB ((j : Int)) (L.n) from ⟨by omega, by omega⟩) (.cons ((hL.at hp52).some (by omega)) (.cons (Ld.add0 (Ld.el1 (P := Tryd.prog) (t := 3) (hL.at hp52).rd 1 (fun _ => rfl) hy59 (o := 0) (v := .int .i64 (l[j]!)) (by kernel_rfl))) .nil))) (by kernel_rfl) (fun b60 => ?_)
      refine thn_n ?_
      refine WP.region _ rfl (by kernel_rfl) ?_
      refine OPS.batch 2 {} [] [55, 56, 57, 61, 62] [.slice L.a L.n L.c, .int .i64 ((L.n : Nat) : Int), .int .i64 (j : Int), .slice ao no co, .int .i64 (l[j]!)] .nil (by kernel_rfl) (fun b61 => ?_)
      refine OPS.cons (opStep.call (some 63) [.int .i64 (l[j]!)] (by kernel_rfl) (itoa_c (l[j]!) (by omega) (by omega) _ (hl.lib.fram hp52.fr)) ?_)
      rintro _ w64 ⟨rfl, hf65⟩
      refine ⟨_, rfl, ?_⟩
      have hp66 := hp52.step hf65
      refine OPS.cons (opStep.buildSlice (E := 9) hp66 [.string (itoaT (l[j]!))] (by kernel_rfl) (fun g69 w67 hp68 => ?_))
      refine OPS.cons (opStep.append1 [.string (itoaT (l[j]!))] hp68 16 (by kernel_rfl) rfl rfl rfl (SlR.row (n := 1) hp68.get0 rfl).rd (List.all_eq_true.1 (by kernel_rfl)) (by decide) (by omega) (by omega) (fun a72 c73 w74 hp75 hn76 => ?_))
      rw [(show List.flatMap strc xs ++ [.string (itoaT (l[j]!))] = List.flatMap strc (xs ++ [itoaT (l[j]!)]) from (List.flatMap_append (xs := xs) (ys := [itoaT (l[j]!)])).symm)] at hp75
      refine OPS.batch 1 {} [] [6, 55, 56, 57] [.slice a72 (no + 1) c73, .slice L.a L.n L.c, .int .i64 ((L.n : Nat) : Int), .int .i64 (j : Int)] .nil (by kernel_rfl) (fun b77 => ?_)
      refine OPS.nil ?_
      refine blk_n ?_
      refine thn_n ?_
      refine WP.pure {} [] [6, 55, 56, 57] [.slice a72 (no + 1) c73, .slice L.a L.n L.c, .int .i64 ((L.n : Nat) : Int), .int .i64 ((j : Int) + 1)] (.cons (show Rng .i64 ((j : Int) + 1) from Rng.i64 (by omega)) .nil) (by kernel_rfl) (fun b78 => ?_)
      refine thn_n ?_
      exact ⟨l.length - (j + 1), (by omega), j + 1, xs ++ [itoaT (l[j]!)], a72, no + 1, c73, rfl, ⟨by omega, by rw [pb, List.take_succ_eq_append_getElem (by omega), List.map_append, ← List.append_assoc]; rw [getElem!_pos l j (by omega)]; rfl⟩, by kernel_rfl, (hp75.sub (.cons _ (.cons_cons _ (.cons_cons _ (.cons_cons _ (.cons_cons _ (.slnil)))))))⟩
    · refine WP.exit ?_
      refine thn_x ?_
      refine thn_x ?_
      refine blk_hit ?_
      refine thn_n ?_
      refine WP.seq ?_
      obtain rfl : j = l.length := by omega
      have hwe : joinB xs = lineS ⟨12, A, B, Ky, valAt w V, l⟩ := by rw [pb, List.take_of_length_le (Nat.le_refl _)]; rfl
      refine WP.region _ rfl (by kernel_rfl) ?_
      refine OPS.batch 1 {} [] [67] [.slice ao no co] .nil (by kernel_rfl) (fun b79 => ?_)
      have hp82 := hp52.pull0
      have hjl := own_flat (sz := 1) (fun _ => rfl) (by decide) hp82.get0
      refine OPS.cons (opStep.call (some 68) [.slice ao no co, .string ⟨#[32]⟩] (by kernel_rfl) (join_c (by omega) (by omega) (by rw [hwe]; exact hjz) hp82) ?_)
      rintro _ w83 ⟨rfl, hf84⟩
      refine ⟨_, rfl, ?_⟩
      have hp85 := hp82.step hf84
      refine OPS.batch 2 {} [] [2, 3] [.string (joinB xs), .int .i64 0] .nil (by kernel_rfl) (fun b86 => ?_)
      refine OPS.nil ?_
      refine thn_n ?_
      refine WP.ret ?_
      refine bodyQ.of _ rfl [.string (joinB xs), .int .i64 0] ⟨rfl, rfl, trivial⟩ ?_
      have hck : chkI ⟨12, A, B, Ky, valAt w V, l⟩ = 0 := by have h_ := h13; omega
      exact ⟨by simp only [pack]; rw [hwe, hck, lineV_ok (chk_ok hck)], hp85.fr⟩

theorem ln_k14 (A B : Int) (Ky : ByteArray) (V L : SlH) (l : List Int) (w : World) (hl : LibS w) (hx : StR w Tr ⟨14, A, B, Ky, V, L⟩ ⟨14, A, B, Ky, valAt w V, l⟩) (hs : smS ⟨14, A, B, Ky, valAt w V, l⟩) :
    Calls Tryd.prog 12 #[GStep.val (⟨14, A, B, Ky, V, L⟩ : GStep)] w (fun r_ w' => r_ = .returned (.tuple #[.string (lineV ⟨14, A, B, Ky, valAt w V, l⟩), .int .i64 (chkI ⟨14, A, B, Ky, valAt w V, l⟩)]) ∧ Fram Non w w') := by
  have hvb := hx.vb
  have hn := hx.ln
  have hL := hx.lr
  simp only at hvb hn hL
  have hi := hs.1
  have hA := hi.1
  have hB := hi.2.1
  unfold inI at hA hB
  have hsz1 := hs.2.1
  have hsz2 := hs.2.2.1
  have hsz3 := hs.2.2.2
  simp only at hA hB hsz1 hsz2 hsz3
  have hjz : (lineS ⟨14, A, B, Ky, valAt w V, l⟩).size ≤ 140737488355328 := by have h_ := line_size hs; simp only at h_; omega
  refine calls_of Tryd.func12 rfl 69 rfl (by simp) ?_
  have hp0 := Hp.init w
  have he0 : List.map (env0 [GStep.val (⟨14, A, B, Ky, V, L⟩ : GStep)]) [0] = [GStep.val (⟨14, A, B, Ky, V, L⟩ : GStep)] := by kernel_rfl
  obtain ⟨b0, he0⟩ := toMk he0
  rw [he0]
  clear he0
  refine WP.seq ?_
  refine WP.region _ rfl (by kernel_rfl) ?_
  refine OPS.cons (opStep.box hp0 [.int .i64 14, .int .i64 A, .int .i64 B, .string Ky, .slice V.a V.n V.c, .slice L.a L.n L.c] (by kernel_rfl) (fun g3 w1 hp2 => ?_))
  refine OPS.batch 2 {} [] [1] [.pointer (some ⟨g3, 0, none⟩)] .nil (by kernel_rfl) (fun b4 => ?_)
  refine OPS.nil ?_
  refine thn_n ?_
  refine WP.seq ?_
  refine WP.seq ?_
  refine WP.region _ rfl (by kernel_rfl) ?_
  refine OPS.batch 1 {} [GStep.val (⟨14, A, B, Ky, V, L⟩ : GStep)] [1, 9] [.pointer (some ⟨g3, 0, none⟩), GStep.val (⟨14, A, B, Ky, V, L⟩ : GStep)] (.cons (show Ld Tryd.prog w1 31 ⟨g3, 0, none⟩ (GStep.val (⟨14, A, B, Ky, V, L⟩ : GStep)) from Ld.rowN (cs := [.int .i64 14, .int .i64 A, .int .i64 B, .string Ky, .slice V.a V.n V.c, .slice L.a L.n L.c]) hp2.get0 (by kernel_rfl)) .nil) (by kernel_rfl) (fun b5 => ?_)
  refine OPS.cons (opStep.call (some 10) [GStep.val (⟨14, A, B, Ky, V, L⟩ : GStep)] (by kernel_rfl) (sc_Check _ (⟨14, A, B, Ky, valAt w V, l⟩ : StepP) _ (hl.fram hp2.fr) (hx.fram hp2.fr)) ?_)
  rintro _ w8 ⟨rfl, hf9⟩
  refine ⟨_, rfl, ?_⟩
  have hp10 := hp2.step hf9
  refine OPS.batch 1 {} [] [1, 4] [.pointer (some ⟨g3, 0, none⟩), .int .i64 (chkI (⟨14, A, B, Ky, valAt w V, l⟩ : StepP))] .nil (by kernel_rfl) (fun b11 => ?_)
  refine OPS.nil ?_
  refine thn_n ?_
  refine WP.seq ?_
  refine WP.pure {} [] [1, 4, 12] [.pointer (some ⟨g3, 0, none⟩), .int .i64 (chkI (⟨14, A, B, Ky, valAt w V, l⟩ : StepP)), .bool (decide (¬ ((chkI (⟨14, A, B, Ky, valAt w V, l⟩ : StepP)) = 0)))] .nil (by kernel_rfl) (fun b12 => ?_)
  refine thn_n ?_
  refine WP.test (p := ¬ ((chkI (⟨14, A, B, Ky, valAt w V, l⟩ : StepP)) = 0)) rfl Bp.dec (fun h13 => ?_) (fun h13 => ?_)
  · refine WP.seq ?_
    refine WP.pure {} [] [2, 3] [.string ⟨#[]⟩, .int .i64 (chkI (⟨14, A, B, Ky, valAt w V, l⟩ : StepP))] .nil (by kernel_rfl) (fun b14 => ?_)
    refine thn_n ?_
    refine WP.ret ?_
    refine thn_r ?_
    refine bodyQ.of _ rfl [.string ⟨#[]⟩, .int .i64 (chkI (⟨14, A, B, Ky, valAt w V, l⟩ : StepP))] ⟨rfl, rfl, trivial⟩ ?_
    exact ⟨by simp only [pack]; rw [lineV_no h13], hp10.fr⟩
  · replace h13 := Classical.not_not.1 h13
    refine WP.skip ?_
    refine thn_n ?_
    refine WP.seq ?_
    refine WP.region _ rfl (by kernel_rfl) ?_
    refine OPS.batch 4 {} [.int .i64 14, .agg #[.string ⟨#[100, 105, 101]⟩, .bool true, .bool true, .bool false, .bool false, .bool false, .bool true]] [1, 17] [.pointer (some ⟨g3, 0, none⟩), .agg #[.string ⟨#[100, 105, 101]⟩, .bool true, .bool true, .bool false, .bool false, .bool false, .bool true]] (.cons (Ld.row1 (P := Tryd.prog) (t := 3) (o := 0) (v := .int .i64 14) hp10.get0 (by kernel_rfl)) (.cons (show InB (14) (17) from ⟨by omega, by omega⟩) (.cons (show Ld Tryd.prog w8 56 ⟨0, 98, none⟩ (.agg #[.string ⟨#[100, 105, 101]⟩, .bool true, .bool true, .bool false, .bool false, .bool false, .bool true]) from Ld.rowN (cs := [.string ⟨#[100, 105, 101]⟩, .bool true, .bool true, .bool false, .bool false, .bool false, .bool true]) (row_at hl.tab hp10.fr) (by kernel_rfl)) .nil))) (by kernel_rfl) (fun b15 => ?_)
    refine OPS.cons (opStep.alloc hp10 [.string ByteArray.empty, .bool false, .bool false, .bool false, .bool false, .bool false, .bool false] (by kernel_rfl) (fun g18 w16 hp17 => ?_))
    refine OPS.cons (opStep.store0 hp17 rfl [.string ⟨#[100, 105, 101]⟩, .bool true, .bool true, .bool false, .bool false, .bool false, .bool true] [.string ⟨#[100, 105, 101]⟩, .bool true, .bool true, .bool false, .bool false, .bool false, .bool true] (by kernel_rfl) (fun w19 hp20 => ?_))
    refine OPS.nil ?_
    refine thn_n ?_
    refine WP.seq ?_
    refine WP.region _ rfl (by kernel_rfl) ?_
    refine OPS.batch 2 {} [.string ⟨#[100, 105, 101]⟩] [1, 5, 19] [.pointer (some ⟨g3, 0, none⟩), .pointer (some ⟨g18, 0, none⟩), .string ⟨#[100, 105, 101]⟩] (.cons (Ld.row1 (P := Tryd.prog) (t := 9) (o := 0) (v := .string ⟨#[100, 105, 101]⟩) hp20.get0 (by kernel_rfl)) .nil) (by kernel_rfl) (fun b21 => ?_)
    refine OPS.cons (opStep.buildSlice (E := 9) hp20 [.string ⟨#[100, 105, 101]⟩] (by kernel_rfl) (fun g24 w22 hp23 => ?_))
    refine OPS.batch 1 {} [] [1, 5, 6] [.pointer (some ⟨g3, 0, none⟩), .pointer (some ⟨g18, 0, none⟩), .slice (some ⟨g24, 0, none⟩) 1 1] .nil (by kernel_rfl) (fun b25 => ?_)
    refine OPS.nil ?_
    refine thn_n ?_
    refine WP.seq ?_
    refine WP.seq ?_
    refine WP.pure {} [.bool true] [1, 5, 6, 22] [.pointer (some ⟨g3, 0, none⟩), .pointer (some ⟨g18, 0, none⟩), .slice (some ⟨g24, 0, none⟩) 1 1, .bool true] (.cons (Ld.row1 (P := Tryd.prog) (t := 4) (o := 1) (v := .bool true) hp23.get1 (by kernel_rfl)) .nil) (by kernel_rfl) (fun b26 => ?_)
    refine thn_n ?_
    refine WP.condT rfl ?_
    refine WP.region _ rfl (by kernel_rfl) ?_
    refine OPS.batch 3 {} [.int .i64 A] [1, 5, 23, 25] [.pointer (some ⟨g3, 0, none⟩), .pointer (some ⟨g18, 0, none⟩), .slice (some ⟨g24, 0, none⟩) 1 1, .int .i64 A] (.cons (Ld.row1 (P := Tryd.prog) (t := 3) (o := 1) (v := .int .i64 A) hp23.get2 (by kernel_rfl)) .nil) (by kernel_rfl) (fun b27 => ?_)
    refine OPS.cons (opStep.call (some 26) [.int .i64 A] (by kernel_rfl) (itoa_c A (by omega) (by omega) _ (hl.lib.fram hp23.fr)) ?_)
    rintro _ w30 ⟨rfl, hf31⟩
    refine ⟨_, rfl, ?_⟩
    have hp32 := hp23.step hf31
    refine OPS.cons (opStep.buildSlice (E := 9) hp32 [.string (itoaT A)] (by kernel_rfl) (fun g35 w33 hp34 => ?_))
    have hp38 := hp34.pull1
    have hp39 := (show Hp w Non [Res.own 9 1 (.slice (some ⟨g24, 0, none⟩) 1 1) 1 (List.flatMap strc [⟨#[100, 105, 101]⟩]), Res.row g35 [.string (itoaT A)] 9, Res.row g18 [.string ⟨#[100, 105, 101]⟩, .bool true, .bool true, .bool false, .bool false, .bool false, .bool true] 56, Res.row g3 [.int .i64 14, .int .i64 A, .int .i64 B, .string Ky, .slice V.a V.n V.c, .slice L.a L.n L.c] 31] w33 from hp38.rowOwnN (sz := 1) (n := 1) rfl (by decide))
    refine OPS.cons (opStep.append0 [.string (itoaT A)] hp39 16 (by kernel_rfl) rfl rfl rfl (SlR.row (n := 1) hp39.get1 rfl).rd (List.all_eq_true.1 (by kernel_rfl)) (by decide) (by omega) (by omega) (fun a40 c41 w42 hp43 hn44 => ?_))
    rw [(show List.flatMap strc [⟨#[100, 105, 101]⟩] ++ [.string (itoaT A)] = List.flatMap strc ([⟨#[100, 105, 101]⟩] ++ [itoaT A]) from (List.flatMap_append (xs := [⟨#[100, 105, 101]⟩]) (ys := [itoaT A])).symm)] at hp43
    refine OPS.batch 1 {} [] [1, 5, 6] [.pointer (some ⟨g3, 0, none⟩), .pointer (some ⟨g18, 0, none⟩), .slice a40 (1 + 1) c41] .nil (by kernel_rfl) (fun b45 => ?_)
    refine OPS.nil ?_
    refine thn_n ?_
    refine WP.seq ?_
    refine WP.seq ?_
    refine WP.pure {} [.bool true] [1, 5, 6, 30] [.pointer (some ⟨g3, 0, none⟩), .pointer (some ⟨g18, 0, none⟩), .slice a40 (1 + 1) c41, .bool true] (.cons (Ld.row1 (P := Tryd.prog) (t := 4) (o := 2) (v := .bool true) hp43.get2 (by kernel_rfl)) .nil) (by kernel_rfl) (fun b46 => ?_)
    refine thn_n ?_
    refine WP.condT rfl ?_
    refine WP.region _ rfl (by kernel_rfl) ?_
    refine OPS.batch 3 {} [.int .i64 B] [1, 5, 31, 33] [.pointer (some ⟨g3, 0, none⟩), .pointer (some ⟨g18, 0, none⟩), .slice a40 (1 + 1) c41, .int .i64 B] (.cons (Ld.row1 (P := Tryd.prog) (t := 3) (o := 2) (v := .int .i64 B) hp43.get3 (by kernel_rfl)) .nil) (by kernel_rfl) (fun b47 => ?_)
    refine OPS.cons (opStep.call (some 34) [.int .i64 B] (by kernel_rfl) (itoa_c B (by omega) (by omega) _ (hl.lib.fram hp43.fr)) ?_)
    rintro _ w50 ⟨rfl, hf51⟩
    refine ⟨_, rfl, ?_⟩
    have hp52 := hp43.step hf51
    refine OPS.cons (opStep.buildSlice (E := 9) hp52 [.string (itoaT B)] (by kernel_rfl) (fun g55 w53 hp54 => ?_))
    refine OPS.cons (opStep.append1 [.string (itoaT B)] hp54 16 (by kernel_rfl) rfl rfl rfl (SlR.row (n := 1) hp54.get0 rfl).rd (List.all_eq_true.1 (by kernel_rfl)) (by decide) (by omega) (by omega) (fun a58 c59 w60 hp61 hn62 => ?_))
    rw [(show List.flatMap strc ([⟨#[100, 105, 101]⟩] ++ [itoaT A]) ++ [.string (itoaT B)] = List.flatMap strc (([⟨#[100, 105, 101]⟩] ++ [itoaT A]) ++ [itoaT B]) from (List.flatMap_append (xs := [⟨#[100, 105, 101]⟩] ++ [itoaT A]) (ys := [itoaT B])).symm)] at hp61
    refine OPS.batch 1 {} [] [1, 5, 6] [.pointer (some ⟨g3, 0, none⟩), .pointer (some ⟨g18, 0, none⟩), .slice a58 (1 + 1 + 1) c59] .nil (by kernel_rfl) (fun b63 => ?_)
    refine OPS.nil ?_
    refine thn_n ?_
    refine WP.seq ?_
    refine WP.seq ?_
    refine WP.pure {} [.bool false] [1, 5, 6, 38] [.pointer (some ⟨g3, 0, none⟩), .pointer (some ⟨g18, 0, none⟩), .slice a58 (1 + 1 + 1) c59, .bool false] (.cons (Ld.row1 (P := Tryd.prog) (t := 4) (o := 3) (v := .bool false) hp61.get3 (by kernel_rfl)) .nil) (by kernel_rfl) (fun b64 => ?_)
    refine thn_n ?_
    refine WP.condF rfl ?_
    refine WP.skip ?_
    refine thn_n ?_
    refine WP.seq ?_
    refine WP.seq ?_
    refine WP.pure {} [.bool false] [1, 6, 46] [.pointer (some ⟨g3, 0, none⟩), .slice a58 (1 + 1 + 1) c59, .bool false] (.cons (Ld.row1 (P := Tryd.prog) (t := 4) (o := 4) (v := .bool false) hp61.get3 (by kernel_rfl)) .nil) (by kernel_rfl) (fun b65 => ?_)
    refine thn_n ?_
    refine WP.condF rfl ?_
    refine WP.skip ?_
    refine thn_n ?_
    refine WP.seq ?_
    refine WP.seq ?_
    refine WP.pure {} [.slice L.a L.n L.c] [6, 55, 56, 57] [.slice a58 (1 + 1 + 1) c59, .slice L.a L.n L.c, .int .i64 ((L.n : Nat) : Int), .int .i64 0] (.cons (Ld.row1 (P := Tryd.prog) (t := 29) (o := 5) (v := .slice L.a L.n L.c) hp61.get4 (by kernel_rfl)) .nil) (by kernel_rfl) (fun b66 => ?_)
    refine thn_n ?_
    refine WP.block ?_
    refine WP.loop (fun mz_ e67 w68 => ∃ (j : Nat) (xs : List ByteArray) (ao : Option Addr) (no : Nat) (co : Nat), mz_ = l.length - j ∧ (j ≤ l.length ∧ xs = [⟨#[100, 105, 101]⟩, itoaT A, itoaT B] ++ (l.take j).map itoaT) ∧ List.map e67 [6, 55, 56, 57] = [.slice ao no co, .slice L.a L.n L.c, .int .i64 ((L.n : Nat) : Int), .int .i64 (j : Int)] ∧ Hp w Non [Res.own 9 1 (.slice ao no co) no (List.flatMap strc xs), Res.row g55 [.string (itoaT B)] 9, Res.row g35 [.string (itoaT A)] 9, Res.row g18 [.string ⟨#[100, 105, 101]⟩, .bool true, .bool true, .bool false, .bool false, .bool false, .bool true] 56, Res.row g3 [.int .i64 14, .int .i64 A, .int .i64 B, .string Ky, .slice V.a V.n V.c, .slice L.a L.n L.c] 31] w68) (l.length - (0)) ⟨0, ([⟨#[100, 105, 101]⟩] ++ [itoaT A]) ++ [itoaT B], a58, 1 + 1 + 1, c59, rfl, ⟨by omega, rfl⟩, by kernel_rfl, ((((((hp61.pull4).pull4).pull4).pull3).pull4).sub (.cons_cons _ (.cons_cons _ (.cons_cons _ (.cons_cons _ (.cons_cons _ (.slnil)))))))⟩ ?_
    rintro _ e67 w68 ⟨j, xs, ao, no, co, rfl, hI70, hE71, hp69⟩
    obtain ⟨b72, rfl⟩ := toMk hE71
    clear hE71
    obtain ⟨pa, pb⟩ := hI70
    have pe := own_flat (sz := 1) (fun _ => rfl) (by decide) hp69.get0
    have pl : xs.length = 3 + j := by rw [pb, List.length_append, List.length_map, List.length_take]; simp; omega
    have hlj : j < l.length → inI l[j]! := fun q => hi.2.2 _ (List.mem_of_getElem? (get_bang q))
    unfold inI at hlj
    refine WP.seq ?_
    refine WP.pure {} [] [6, 55, 56, 57, 58] [.slice ao no co, .slice L.a L.n L.c, .int .i64 ((L.n : Nat) : Int), .int .i64 (j : Int), .bool (decide ((j : Int) < ((L.n : Nat) : Int)))] .nil (by kernel_rfl) (fun b73 => ?_)
    refine thn_n ?_
    refine WP.seq ?_
    refine WP.test (p := (j : Int) < ((L.n : Nat) : Int)) rfl Bp.dec (fun h74 => ?_) (fun h74 => ?_)
    · refine WP.skip ?_
      refine thn_n ?_
      refine WP.seq ?_
      refine WP.block ?_
      refine WP.seq ?_
      have hy76 : (l)[j]? = some l[j]! := get_bang (by first | (omega) | (simp only [List.length_append, List.length_cons, List.length_nil]; omega) | (simp only [List.length_take, List.length_append, List.length_cons, List.length_nil]; omega))
      refine WP.pure {} [.int .i64 (l[j]!)] [6, 8, 55, 56, 57] [.slice ao no co, .int .i64 (l[j]!), .slice L.a L.n L.c, .int .i64 ((L.n : Nat) : Int), .int .i64 (j : Int)] (.cons (show InB ((j : Int)) (L.n) from ⟨by omega, by omega⟩) (.cons ((hL.at hp69).some (by omega)) (.cons (Ld.add0 (Ld.el1 (P := Tryd.prog) (t := 3) (hL.at hp69).rd 1 (fun _ => rfl) hy76 (o := 0) (v := .int .i64 (l[j]!)) (by kernel_rfl))) .nil))) (by kernel_rfl) (fun b77 => ?_)
      refine thn_n ?_
      refine WP.region _ rfl (by kernel_rfl) ?_
      refine OPS.batch 2 {} [] [55, 56, 57, 61, 62] [.slice L.a L.n L.c, .int .i64 ((L.n : Nat) : Int), .int .i64 (j : Int), .slice ao no co, .int .i64 (l[j]!)] .nil (by kernel_rfl) (fun b78 => ?_)
      refine OPS.cons (opStep.call (some 63) [.int .i64 (l[j]!)] (by kernel_rfl) (itoa_c (l[j]!) (by omega) (by omega) _ (hl.lib.fram hp69.fr)) ?_)
      rintro _ w81 ⟨rfl, hf82⟩
      refine ⟨_, rfl, ?_⟩
      have hp83 := hp69.step hf82
      refine OPS.cons (opStep.buildSlice (E := 9) hp83 [.string (itoaT (l[j]!))] (by kernel_rfl) (fun g86 w84 hp85 => ?_))
      refine OPS.cons (opStep.append1 [.string (itoaT (l[j]!))] hp85 16 (by kernel_rfl) rfl rfl rfl (SlR.row (n := 1) hp85.get0 rfl).rd (List.all_eq_true.1 (by kernel_rfl)) (by decide) (by omega) (by omega) (fun a89 c90 w91 hp92 hn93 => ?_))
      rw [(show List.flatMap strc xs ++ [.string (itoaT (l[j]!))] = List.flatMap strc (xs ++ [itoaT (l[j]!)]) from (List.flatMap_append (xs := xs) (ys := [itoaT (l[j]!)])).symm)] at hp92
      refine OPS.batch 1 {} [] [6, 55, 56, 57] [.slice a89 (no + 1) c90, .slice L.a L.n L.c, .int .i64 ((L.n : Nat) : Int), .int .i64 (j : Int)] .nil (by kernel_rfl) (fun b94 => ?_)
      refine OPS.nil ?_
      refine blk_n ?_
      refine thn_n ?_
      refine WP.pure {} [] [6, 55, 56, 57] [.slice a89 (no + 1) c90, .slice L.a L.n L.c, .int .i64 ((L.n : Nat) : Int), .int .i64 ((j : Int) + 1)] (.cons (show Rng .i64 ((j : Int) + 1) from Rng.i64 (by omega)) .nil) (by kernel_rfl) (fun b95 => ?_)
      refine thn_n ?_
      exact ⟨l.length - (j + 1), (by omega), j + 1, xs ++ [itoaT (l[j]!)], a89, no + 1, c90, rfl, ⟨by omega, by rw [pb, List.take_succ_eq_append_getElem (by omega), List.map_append, ← List.append_assoc]; rw [getElem!_pos l j (by omega)]; rfl⟩, by kernel_rfl, (hp92.sub (.cons _ (.cons_cons _ (.cons_cons _ (.cons_cons _ (.cons_cons _ (.cons_cons _ (.slnil))))))))⟩
    · refine WP.exit ?_
      refine thn_x ?_
      refine thn_x ?_
      refine blk_hit ?_
      refine thn_n ?_
      refine WP.seq ?_
      obtain rfl : j = l.length := by omega
      have hwe : joinB xs = lineS ⟨14, A, B, Ky, valAt w V, l⟩ := by rw [pb, List.take_of_length_le (Nat.le_refl _)]; rfl
      refine WP.region _ rfl (by kernel_rfl) ?_
      refine OPS.batch 1 {} [] [67] [.slice ao no co] .nil (by kernel_rfl) (fun b96 => ?_)
      have hp99 := hp69.pull0
      have hjl := own_flat (sz := 1) (fun _ => rfl) (by decide) hp99.get0
      refine OPS.cons (opStep.call (some 68) [.slice ao no co, .string ⟨#[32]⟩] (by kernel_rfl) (join_c (by omega) (by omega) (by rw [hwe]; exact hjz) hp99) ?_)
      rintro _ w100 ⟨rfl, hf101⟩
      refine ⟨_, rfl, ?_⟩
      have hp102 := hp99.step hf101
      refine OPS.batch 2 {} [] [2, 3] [.string (joinB xs), .int .i64 0] .nil (by kernel_rfl) (fun b103 => ?_)
      refine OPS.nil ?_
      refine thn_n ?_
      refine WP.ret ?_
      refine bodyQ.of _ rfl [.string (joinB xs), .int .i64 0] ⟨rfl, rfl, trivial⟩ ?_
      have hck : chkI ⟨14, A, B, Ky, valAt w V, l⟩ = 0 := by have h_ := h13; omega
      exact ⟨by simp only [pack]; rw [hwe, hck, lineV_ok (chk_ok hck)], hp102.fr⟩

theorem ln_k16 (A B : Int) (Ky : ByteArray) (V L : SlH) (l : List Int) (w : World) (hl : LibS w) (hx : StR w Tr ⟨16, A, B, Ky, V, L⟩ ⟨16, A, B, Ky, valAt w V, l⟩) (hs : smS ⟨16, A, B, Ky, valAt w V, l⟩) :
    Calls Tryd.prog 12 #[GStep.val (⟨16, A, B, Ky, V, L⟩ : GStep)] w (fun r_ w' => r_ = .returned (.tuple #[.string (lineV ⟨16, A, B, Ky, valAt w V, l⟩), .int .i64 (chkI ⟨16, A, B, Ky, valAt w V, l⟩)]) ∧ Fram Non w w') := by
  have hvb := hx.vb
  have hn := hx.ln
  have hL := hx.lr
  simp only at hvb hn hL
  have hi := hs.1
  have hA := hi.1
  have hB := hi.2.1
  unfold inI at hA hB
  have hsz1 := hs.2.1
  have hsz2 := hs.2.2.1
  have hsz3 := hs.2.2.2
  simp only at hA hB hsz1 hsz2 hsz3
  have hjz : (lineS ⟨16, A, B, Ky, valAt w V, l⟩).size ≤ 140737488355328 := by have h_ := line_size hs; simp only at h_; omega
  refine calls_of Tryd.func12 rfl 69 rfl (by simp) ?_
  have hp0 := Hp.init w
  have he0 : List.map (env0 [GStep.val (⟨16, A, B, Ky, V, L⟩ : GStep)]) [0] = [GStep.val (⟨16, A, B, Ky, V, L⟩ : GStep)] := by kernel_rfl
  obtain ⟨b0, he0⟩ := toMk he0
  rw [he0]
  clear he0
  refine WP.seq ?_
  refine WP.region _ rfl (by kernel_rfl) ?_
  refine OPS.cons (opStep.box hp0 [.int .i64 16, .int .i64 A, .int .i64 B, .string Ky, .slice V.a V.n V.c, .slice L.a L.n L.c] (by kernel_rfl) (fun g3 w1 hp2 => ?_))
  refine OPS.batch 2 {} [] [1] [.pointer (some ⟨g3, 0, none⟩)] .nil (by kernel_rfl) (fun b4 => ?_)
  refine OPS.nil ?_
  refine thn_n ?_
  refine WP.seq ?_
  refine WP.seq ?_
  refine WP.region _ rfl (by kernel_rfl) ?_
  refine OPS.batch 1 {} [GStep.val (⟨16, A, B, Ky, V, L⟩ : GStep)] [1, 9] [.pointer (some ⟨g3, 0, none⟩), GStep.val (⟨16, A, B, Ky, V, L⟩ : GStep)] (.cons (show Ld Tryd.prog w1 31 ⟨g3, 0, none⟩ (GStep.val (⟨16, A, B, Ky, V, L⟩ : GStep)) from Ld.rowN (cs := [.int .i64 16, .int .i64 A, .int .i64 B, .string Ky, .slice V.a V.n V.c, .slice L.a L.n L.c]) hp2.get0 (by kernel_rfl)) .nil) (by kernel_rfl) (fun b5 => ?_)
  refine OPS.cons (opStep.call (some 10) [GStep.val (⟨16, A, B, Ky, V, L⟩ : GStep)] (by kernel_rfl) (sc_Check _ (⟨16, A, B, Ky, valAt w V, l⟩ : StepP) _ (hl.fram hp2.fr) (hx.fram hp2.fr)) ?_)
  rintro _ w8 ⟨rfl, hf9⟩
  refine ⟨_, rfl, ?_⟩
  have hp10 := hp2.step hf9
  refine OPS.batch 1 {} [] [1, 4] [.pointer (some ⟨g3, 0, none⟩), .int .i64 (chkI (⟨16, A, B, Ky, valAt w V, l⟩ : StepP))] .nil (by kernel_rfl) (fun b11 => ?_)
  refine OPS.nil ?_
  refine thn_n ?_
  refine WP.seq ?_
  refine WP.pure {} [] [1, 4, 12] [.pointer (some ⟨g3, 0, none⟩), .int .i64 (chkI (⟨16, A, B, Ky, valAt w V, l⟩ : StepP)), .bool (decide (¬ ((chkI (⟨16, A, B, Ky, valAt w V, l⟩ : StepP)) = 0)))] .nil (by kernel_rfl) (fun b12 => ?_)
  refine thn_n ?_
  refine WP.test (p := ¬ ((chkI (⟨16, A, B, Ky, valAt w V, l⟩ : StepP)) = 0)) rfl Bp.dec (fun h13 => ?_) (fun h13 => ?_)
  · refine WP.seq ?_
    refine WP.pure {} [] [2, 3] [.string ⟨#[]⟩, .int .i64 (chkI (⟨16, A, B, Ky, valAt w V, l⟩ : StepP))] .nil (by kernel_rfl) (fun b14 => ?_)
    refine thn_n ?_
    refine WP.ret ?_
    refine thn_r ?_
    refine bodyQ.of _ rfl [.string ⟨#[]⟩, .int .i64 (chkI (⟨16, A, B, Ky, valAt w V, l⟩ : StepP))] ⟨rfl, rfl, trivial⟩ ?_
    exact ⟨by simp only [pack]; rw [lineV_no h13], hp10.fr⟩
  · replace h13 := Classical.not_not.1 h13
    refine WP.skip ?_
    refine thn_n ?_
    refine WP.seq ?_
    refine WP.region _ rfl (by kernel_rfl) ?_
    refine OPS.batch 4 {} [.int .i64 16, .agg #[.string ⟨#[114, 111, 117, 110, 100]⟩, .bool false, .bool true, .bool false, .bool false, .bool false, .bool true]] [1, 17] [.pointer (some ⟨g3, 0, none⟩), .agg #[.string ⟨#[114, 111, 117, 110, 100]⟩, .bool false, .bool true, .bool false, .bool false, .bool false, .bool true]] (.cons (Ld.row1 (P := Tryd.prog) (t := 3) (o := 0) (v := .int .i64 16) hp10.get0 (by kernel_rfl)) (.cons (show InB (16) (17) from ⟨by omega, by omega⟩) (.cons (show Ld Tryd.prog w8 56 ⟨0, 112, none⟩ (.agg #[.string ⟨#[114, 111, 117, 110, 100]⟩, .bool false, .bool true, .bool false, .bool false, .bool false, .bool true]) from Ld.rowN (cs := [.string ⟨#[114, 111, 117, 110, 100]⟩, .bool false, .bool true, .bool false, .bool false, .bool false, .bool true]) (row_at hl.tab hp10.fr) (by kernel_rfl)) .nil))) (by kernel_rfl) (fun b15 => ?_)
    refine OPS.cons (opStep.alloc hp10 [.string ByteArray.empty, .bool false, .bool false, .bool false, .bool false, .bool false, .bool false] (by kernel_rfl) (fun g18 w16 hp17 => ?_))
    refine OPS.cons (opStep.store0 hp17 rfl [.string ⟨#[114, 111, 117, 110, 100]⟩, .bool false, .bool true, .bool false, .bool false, .bool false, .bool true] [.string ⟨#[114, 111, 117, 110, 100]⟩, .bool false, .bool true, .bool false, .bool false, .bool false, .bool true] (by kernel_rfl) (fun w19 hp20 => ?_))
    refine OPS.nil ?_
    refine thn_n ?_
    refine WP.seq ?_
    refine WP.region _ rfl (by kernel_rfl) ?_
    refine OPS.batch 2 {} [.string ⟨#[114, 111, 117, 110, 100]⟩] [1, 5, 19] [.pointer (some ⟨g3, 0, none⟩), .pointer (some ⟨g18, 0, none⟩), .string ⟨#[114, 111, 117, 110, 100]⟩] (.cons (Ld.row1 (P := Tryd.prog) (t := 9) (o := 0) (v := .string ⟨#[114, 111, 117, 110, 100]⟩) hp20.get0 (by kernel_rfl)) .nil) (by kernel_rfl) (fun b21 => ?_)
    refine OPS.cons (opStep.buildSlice (E := 9) hp20 [.string ⟨#[114, 111, 117, 110, 100]⟩] (by kernel_rfl) (fun g24 w22 hp23 => ?_))
    refine OPS.batch 1 {} [] [1, 5, 6] [.pointer (some ⟨g3, 0, none⟩), .pointer (some ⟨g18, 0, none⟩), .slice (some ⟨g24, 0, none⟩) 1 1] .nil (by kernel_rfl) (fun b25 => ?_)
    refine OPS.nil ?_
    refine thn_n ?_
    refine WP.seq ?_
    refine WP.seq ?_
    refine WP.pure {} [.bool false] [1, 5, 6, 22] [.pointer (some ⟨g3, 0, none⟩), .pointer (some ⟨g18, 0, none⟩), .slice (some ⟨g24, 0, none⟩) 1 1, .bool false] (.cons (Ld.row1 (P := Tryd.prog) (t := 4) (o := 1) (v := .bool false) hp23.get1 (by kernel_rfl)) .nil) (by kernel_rfl) (fun b26 => ?_)
    refine thn_n ?_
    refine WP.condF rfl ?_
    refine WP.skip ?_
    refine thn_n ?_
    refine WP.seq ?_
    refine WP.seq ?_
    refine WP.pure {} [.bool true] [1, 5, 6, 30] [.pointer (some ⟨g3, 0, none⟩), .pointer (some ⟨g18, 0, none⟩), .slice (some ⟨g24, 0, none⟩) 1 1, .bool true] (.cons (Ld.row1 (P := Tryd.prog) (t := 4) (o := 2) (v := .bool true) hp23.get1 (by kernel_rfl)) .nil) (by kernel_rfl) (fun b27 => ?_)
    refine thn_n ?_
    refine WP.condT rfl ?_
    refine WP.region _ rfl (by kernel_rfl) ?_
    refine OPS.batch 3 {} [.int .i64 B] [1, 5, 31, 33] [.pointer (some ⟨g3, 0, none⟩), .pointer (some ⟨g18, 0, none⟩), .slice (some ⟨g24, 0, none⟩) 1 1, .int .i64 B] (.cons (Ld.row1 (P := Tryd.prog) (t := 3) (o := 2) (v := .int .i64 B) hp23.get2 (by kernel_rfl)) .nil) (by kernel_rfl) (fun b28 => ?_)
    refine OPS.cons (opStep.call (some 34) [.int .i64 B] (by kernel_rfl) (itoa_c B (by omega) (by omega) _ (hl.lib.fram hp23.fr)) ?_)
    rintro _ w31 ⟨rfl, hf32⟩
    refine ⟨_, rfl, ?_⟩
    have hp33 := hp23.step hf32
    refine OPS.cons (opStep.buildSlice (E := 9) hp33 [.string (itoaT B)] (by kernel_rfl) (fun g36 w34 hp35 => ?_))
    have hp39 := hp35.pull1
    have hp40 := (show Hp w Non [Res.own 9 1 (.slice (some ⟨g24, 0, none⟩) 1 1) 1 (List.flatMap strc [⟨#[114, 111, 117, 110, 100]⟩]), Res.row g36 [.string (itoaT B)] 9, Res.row g18 [.string ⟨#[114, 111, 117, 110, 100]⟩, .bool false, .bool true, .bool false, .bool false, .bool false, .bool true] 56, Res.row g3 [.int .i64 16, .int .i64 A, .int .i64 B, .string Ky, .slice V.a V.n V.c, .slice L.a L.n L.c] 31] w34 from hp39.rowOwnN (sz := 1) (n := 1) rfl (by decide))
    refine OPS.cons (opStep.append0 [.string (itoaT B)] hp40 16 (by kernel_rfl) rfl rfl rfl (SlR.row (n := 1) hp40.get1 rfl).rd (List.all_eq_true.1 (by kernel_rfl)) (by decide) (by omega) (by omega) (fun a41 c42 w43 hp44 hn45 => ?_))
    rw [(show List.flatMap strc [⟨#[114, 111, 117, 110, 100]⟩] ++ [.string (itoaT B)] = List.flatMap strc ([⟨#[114, 111, 117, 110, 100]⟩] ++ [itoaT B]) from (List.flatMap_append (xs := [⟨#[114, 111, 117, 110, 100]⟩]) (ys := [itoaT B])).symm)] at hp44
    refine OPS.batch 1 {} [] [1, 5, 6] [.pointer (some ⟨g3, 0, none⟩), .pointer (some ⟨g18, 0, none⟩), .slice a41 (1 + 1) c42] .nil (by kernel_rfl) (fun b46 => ?_)
    refine OPS.nil ?_
    refine thn_n ?_
    refine WP.seq ?_
    refine WP.seq ?_
    refine WP.pure {} [.bool false] [1, 5, 6, 38] [.pointer (some ⟨g3, 0, none⟩), .pointer (some ⟨g18, 0, none⟩), .slice a41 (1 + 1) c42, .bool false] (.cons (Ld.row1 (P := Tryd.prog) (t := 4) (o := 3) (v := .bool false) hp44.get2 (by kernel_rfl)) .nil) (by kernel_rfl) (fun b47 => ?_)
    refine thn_n ?_
    refine WP.condF rfl ?_
    refine WP.skip ?_
    refine thn_n ?_
    refine WP.seq ?_
    refine WP.seq ?_
    refine WP.pure {} [.bool false] [1, 6, 46] [.pointer (some ⟨g3, 0, none⟩), .slice a41 (1 + 1) c42, .bool false] (.cons (Ld.row1 (P := Tryd.prog) (t := 4) (o := 4) (v := .bool false) hp44.get2 (by kernel_rfl)) .nil) (by kernel_rfl) (fun b48 => ?_)
    refine thn_n ?_
    refine WP.condF rfl ?_
    refine WP.skip ?_
    refine thn_n ?_
    refine WP.seq ?_
    refine WP.seq ?_
    refine WP.pure {} [.slice L.a L.n L.c] [6, 55, 56, 57] [.slice a41 (1 + 1) c42, .slice L.a L.n L.c, .int .i64 ((L.n : Nat) : Int), .int .i64 0] (.cons (Ld.row1 (P := Tryd.prog) (t := 29) (o := 5) (v := .slice L.a L.n L.c) hp44.get3 (by kernel_rfl)) .nil) (by kernel_rfl) (fun b49 => ?_)
    refine thn_n ?_
    refine WP.block ?_
    refine WP.loop (fun mz_ e50 w51 => ∃ (j : Nat) (xs : List ByteArray) (ao : Option Addr) (no : Nat) (co : Nat), mz_ = l.length - j ∧ (j ≤ l.length ∧ xs = [⟨#[114, 111, 117, 110, 100]⟩, itoaT B] ++ (l.take j).map itoaT) ∧ List.map e50 [6, 55, 56, 57] = [.slice ao no co, .slice L.a L.n L.c, .int .i64 ((L.n : Nat) : Int), .int .i64 (j : Int)] ∧ Hp w Non [Res.own 9 1 (.slice ao no co) no (List.flatMap strc xs), Res.row g36 [.string (itoaT B)] 9, Res.row g18 [.string ⟨#[114, 111, 117, 110, 100]⟩, .bool false, .bool true, .bool false, .bool false, .bool false, .bool true] 56, Res.row g3 [.int .i64 16, .int .i64 A, .int .i64 B, .string Ky, .slice V.a V.n V.c, .slice L.a L.n L.c] 31] w51) (l.length - (0)) ⟨0, [⟨#[114, 111, 117, 110, 100]⟩] ++ [itoaT B], a41, 1 + 1, c42, rfl, ⟨by omega, rfl⟩, by kernel_rfl, hp44⟩ ?_
    rintro _ e50 w51 ⟨j, xs, ao, no, co, rfl, hI53, hE54, hp52⟩
    obtain ⟨b55, rfl⟩ := toMk hE54
    clear hE54
    obtain ⟨pa, pb⟩ := hI53
    have pe := own_flat (sz := 1) (fun _ => rfl) (by decide) hp52.get0
    have pl : xs.length = 2 + j := by rw [pb, List.length_append, List.length_map, List.length_take]; simp; omega
    have hlj : j < l.length → inI l[j]! := fun q => hi.2.2 _ (List.mem_of_getElem? (get_bang q))
    unfold inI at hlj
    refine WP.seq ?_
    refine WP.pure {} [] [6, 55, 56, 57, 58] [.slice ao no co, .slice L.a L.n L.c, .int .i64 ((L.n : Nat) : Int), .int .i64 (j : Int), .bool (decide ((j : Int) < ((L.n : Nat) : Int)))] .nil (by kernel_rfl) (fun b56 => ?_)
    refine thn_n ?_
    refine WP.seq ?_
    refine WP.test (p := (j : Int) < ((L.n : Nat) : Int)) rfl Bp.dec (fun h57 => ?_) (fun h57 => ?_)
    · refine WP.skip ?_
      refine thn_n ?_
      refine WP.seq ?_
      refine WP.block ?_
      refine WP.seq ?_
      have hy59 : (l)[j]? = some l[j]! := get_bang (by first | (omega) | (simp only [List.length_append, List.length_cons, List.length_nil]; omega) | (simp only [List.length_take, List.length_append, List.length_cons, List.length_nil]; omega))
      refine WP.pure {} [.int .i64 (l[j]!)] [6, 8, 55, 56, 57] [.slice ao no co, .int .i64 (l[j]!), .slice L.a L.n L.c, .int .i64 ((L.n : Nat) : Int), .int .i64 (j : Int)] (.cons (show InB ((j : Int)) (L.n) from ⟨by omega, by omega⟩) (.cons ((hL.at hp52).some (by omega)) (.cons (Ld.add0 (Ld.el1 (P := Tryd.prog) (t := 3) (hL.at hp52).rd 1 (fun _ => rfl) hy59 (o := 0) (v := .int .i64 (l[j]!)) (by kernel_rfl))) .nil))) (by kernel_rfl) (fun b60 => ?_)
      refine thn_n ?_
      refine WP.region _ rfl (by kernel_rfl) ?_
      refine OPS.batch 2 {} [] [55, 56, 57, 61, 62] [.slice L.a L.n L.c, .int .i64 ((L.n : Nat) : Int), .int .i64 (j : Int), .slice ao no co, .int .i64 (l[j]!)] .nil (by kernel_rfl) (fun b61 => ?_)
      refine OPS.cons (opStep.call (some 63) [.int .i64 (l[j]!)] (by kernel_rfl) (itoa_c (l[j]!) (by omega) (by omega) _ (hl.lib.fram hp52.fr)) ?_)
      rintro _ w64 ⟨rfl, hf65⟩
      refine ⟨_, rfl, ?_⟩
      have hp66 := hp52.step hf65
      refine OPS.cons (opStep.buildSlice (E := 9) hp66 [.string (itoaT (l[j]!))] (by kernel_rfl) (fun g69 w67 hp68 => ?_))
      refine OPS.cons (opStep.append1 [.string (itoaT (l[j]!))] hp68 16 (by kernel_rfl) rfl rfl rfl (SlR.row (n := 1) hp68.get0 rfl).rd (List.all_eq_true.1 (by kernel_rfl)) (by decide) (by omega) (by omega) (fun a72 c73 w74 hp75 hn76 => ?_))
      rw [(show List.flatMap strc xs ++ [.string (itoaT (l[j]!))] = List.flatMap strc (xs ++ [itoaT (l[j]!)]) from (List.flatMap_append (xs := xs) (ys := [itoaT (l[j]!)])).symm)] at hp75
      refine OPS.batch 1 {} [] [6, 55, 56, 57] [.slice a72 (no + 1) c73, .slice L.a L.n L.c, .int .i64 ((L.n : Nat) : Int), .int .i64 (j : Int)] .nil (by kernel_rfl) (fun b77 => ?_)
      refine OPS.nil ?_
      refine blk_n ?_
      refine thn_n ?_
      refine WP.pure {} [] [6, 55, 56, 57] [.slice a72 (no + 1) c73, .slice L.a L.n L.c, .int .i64 ((L.n : Nat) : Int), .int .i64 ((j : Int) + 1)] (.cons (show Rng .i64 ((j : Int) + 1) from Rng.i64 (by omega)) .nil) (by kernel_rfl) (fun b78 => ?_)
      refine thn_n ?_
      exact ⟨l.length - (j + 1), (by omega), j + 1, xs ++ [itoaT (l[j]!)], a72, no + 1, c73, rfl, ⟨by omega, by rw [pb, List.take_succ_eq_append_getElem (by omega), List.map_append, ← List.append_assoc]; rw [getElem!_pos l j (by omega)]; rfl⟩, by kernel_rfl, (hp75.sub (.cons _ (.cons_cons _ (.cons_cons _ (.cons_cons _ (.cons_cons _ (.slnil)))))))⟩
    · refine WP.exit ?_
      refine thn_x ?_
      refine thn_x ?_
      refine blk_hit ?_
      refine thn_n ?_
      refine WP.seq ?_
      obtain rfl : j = l.length := by omega
      have hwe : joinB xs = lineS ⟨16, A, B, Ky, valAt w V, l⟩ := by rw [pb, List.take_of_length_le (Nat.le_refl _)]; rfl
      refine WP.region _ rfl (by kernel_rfl) ?_
      refine OPS.batch 1 {} [] [67] [.slice ao no co] .nil (by kernel_rfl) (fun b79 => ?_)
      have hp82 := hp52.pull0
      have hjl := own_flat (sz := 1) (fun _ => rfl) (by decide) hp82.get0
      refine OPS.cons (opStep.call (some 68) [.slice ao no co, .string ⟨#[32]⟩] (by kernel_rfl) (join_c (by omega) (by omega) (by rw [hwe]; exact hjz) hp82) ?_)
      rintro _ w83 ⟨rfl, hf84⟩
      refine ⟨_, rfl, ?_⟩
      have hp85 := hp82.step hf84
      refine OPS.batch 2 {} [] [2, 3] [.string (joinB xs), .int .i64 0] .nil (by kernel_rfl) (fun b86 => ?_)
      refine OPS.nil ?_
      refine thn_n ?_
      refine WP.ret ?_
      refine bodyQ.of _ rfl [.string (joinB xs), .int .i64 0] ⟨rfl, rfl, trivial⟩ ?_
      have hck : chkI ⟨16, A, B, Ky, valAt w V, l⟩ = 0 := by have h_ := h13; omega
      exact ⟨by simp only [pack]; rw [hwe, hck, lineV_ok (chk_ok hck)], hp85.fr⟩

theorem ln_kk (k : Int) (hpa : PA k) (A B : Int) (Ky : ByteArray) (V L : SlH) (l : List Int) (w : World) (hl : LibS w) (hx : StR w Tr ⟨k, A, B, Ky, V, L⟩ ⟨k, A, B, Ky, valAt w V, l⟩) (hs : smS ⟨k, A, B, Ky, valAt w V, l⟩) :
    Calls Tryd.prog 12 #[GStep.val (⟨k, A, B, Ky, V, L⟩ : GStep)] w (fun r_ w' => r_ = .returned (.tuple #[.string (lineV ⟨k, A, B, Ky, valAt w V, l⟩), .int .i64 (chkI ⟨k, A, B, Ky, valAt w V, l⟩)]) ∧ Fram Non w w') := by
  have hpr := hpa.rng
  have hvb := hx.vb
  have hn := hx.ln
  have hL := hx.lr
  simp only at hvb hn hL
  have hi := hs.1
  have hA := hi.1
  have hB := hi.2.1
  unfold inI at hA hB
  have hsz1 := hs.2.1
  have hsz2 := hs.2.2.1
  have hsz3 := hs.2.2.2
  simp only at hA hB hsz1 hsz2 hsz3
  have hjz : (lineS ⟨k, A, B, Ky, valAt w V, l⟩).size ≤ 140737488355328 := by have h_ := line_size hs; simp only at h_; omega
  refine calls_of Tryd.func12 rfl 69 rfl (by simp) ?_
  have hp0 := Hp.init w
  have he0 : List.map (env0 [GStep.val (⟨k, A, B, Ky, V, L⟩ : GStep)]) [0] = [GStep.val (⟨k, A, B, Ky, V, L⟩ : GStep)] := by kernel_rfl
  obtain ⟨b0, he0⟩ := toMk he0
  rw [he0]
  clear he0
  refine WP.seq ?_
  refine WP.region _ rfl (by kernel_rfl) ?_
  refine OPS.cons (opStep.box hp0 [.int .i64 k, .int .i64 A, .int .i64 B, .string Ky, .slice V.a V.n V.c, .slice L.a L.n L.c] (by kernel_rfl) (fun g3 w1 hp2 => ?_))
  refine OPS.batch 2 {} [] [1] [.pointer (some ⟨g3, 0, none⟩)] .nil (by kernel_rfl) (fun b4 => ?_)
  refine OPS.nil ?_
  refine thn_n ?_
  refine WP.seq ?_
  refine WP.seq ?_
  refine WP.region _ rfl (by kernel_rfl) ?_
  refine OPS.batch 1 {} [GStep.val (⟨k, A, B, Ky, V, L⟩ : GStep)] [1, 9] [.pointer (some ⟨g3, 0, none⟩), GStep.val (⟨k, A, B, Ky, V, L⟩ : GStep)] (.cons (show Ld Tryd.prog w1 31 ⟨g3, 0, none⟩ (GStep.val (⟨k, A, B, Ky, V, L⟩ : GStep)) from Ld.rowN (cs := [.int .i64 k, .int .i64 A, .int .i64 B, .string Ky, .slice V.a V.n V.c, .slice L.a L.n L.c]) hp2.get0 (by kernel_rfl)) .nil) (by kernel_rfl) (fun b5 => ?_)
  refine OPS.cons (opStep.call (some 10) [GStep.val (⟨k, A, B, Ky, V, L⟩ : GStep)] (by kernel_rfl) (sc_Check _ (⟨k, A, B, Ky, valAt w V, l⟩ : StepP) _ (hl.fram hp2.fr) (hx.fram hp2.fr)) ?_)
  rintro _ w8 ⟨rfl, hf9⟩
  refine ⟨_, rfl, ?_⟩
  have hp10 := hp2.step hf9
  refine OPS.batch 1 {} [] [1, 4] [.pointer (some ⟨g3, 0, none⟩), .int .i64 (chkI (⟨k, A, B, Ky, valAt w V, l⟩ : StepP))] .nil (by kernel_rfl) (fun b11 => ?_)
  refine OPS.nil ?_
  refine thn_n ?_
  refine WP.seq ?_
  refine WP.pure {} [] [1, 4, 12] [.pointer (some ⟨g3, 0, none⟩), .int .i64 (chkI (⟨k, A, B, Ky, valAt w V, l⟩ : StepP)), .bool (decide (¬ ((chkI (⟨k, A, B, Ky, valAt w V, l⟩ : StepP)) = 0)))] .nil (by kernel_rfl) (fun b12 => ?_)
  refine thn_n ?_
  refine WP.test (p := ¬ ((chkI (⟨k, A, B, Ky, valAt w V, l⟩ : StepP)) = 0)) rfl Bp.dec (fun h13 => ?_) (fun h13 => ?_)
  · refine WP.seq ?_
    refine WP.pure {} [] [2, 3] [.string ⟨#[]⟩, .int .i64 (chkI (⟨k, A, B, Ky, valAt w V, l⟩ : StepP))] .nil (by kernel_rfl) (fun b14 => ?_)
    refine thn_n ?_
    refine WP.ret ?_
    refine thn_r ?_
    refine bodyQ.of _ rfl [.string ⟨#[]⟩, .int .i64 (chkI (⟨k, A, B, Ky, valAt w V, l⟩ : StepP))] ⟨rfl, rfl, trivial⟩ ?_
    exact ⟨by simp only [pack]; rw [lineV_no h13], hp10.fr⟩
  · replace h13 := Classical.not_not.1 h13
    refine WP.skip ?_
    refine thn_n ?_
    refine WP.seq ?_
    refine WP.region _ rfl (by kernel_rfl) ?_
    refine OPS.batch 4 {} [.int .i64 k, .agg #[.string (kWord k), .bool true, .bool false, .bool false, .bool false, .bool false, .bool false]] [1, 17] [.pointer (some ⟨g3, 0, none⟩), .agg #[.string (kWord k), .bool true, .bool false, .bool false, .bool false, .bool false, .bool false]] (.cons (Ld.row1 (P := Tryd.prog) (t := 3) (o := 0) (v := .int .i64 k) hp10.get0 (by kernel_rfl)) (.cons (show InB (k) (17) from ⟨by omega, by omega⟩) (.cons (fm_a hpa (hl.fram hp10.fr)) .nil))) (by kernel_rfl) (fun b15 => ?_)
    refine OPS.cons (opStep.alloc hp10 [.string ByteArray.empty, .bool false, .bool false, .bool false, .bool false, .bool false, .bool false] (by kernel_rfl) (fun g18 w16 hp17 => ?_))
    refine OPS.cons (opStep.store0 hp17 rfl [.string (kWord k), .bool true, .bool false, .bool false, .bool false, .bool false, .bool false] [.string (kWord k), .bool true, .bool false, .bool false, .bool false, .bool false, .bool false] (by kernel_rfl) (fun w19 hp20 => ?_))
    refine OPS.nil ?_
    refine thn_n ?_
    refine WP.seq ?_
    refine WP.region _ rfl (by kernel_rfl) ?_
    refine OPS.batch 2 {} [.string (kWord k)] [1, 5, 19] [.pointer (some ⟨g3, 0, none⟩), .pointer (some ⟨g18, 0, none⟩), .string (kWord k)] (.cons (Ld.row1 (P := Tryd.prog) (t := 9) (o := 0) (v := .string (kWord k)) hp20.get0 (by kernel_rfl)) .nil) (by kernel_rfl) (fun b21 => ?_)
    refine OPS.cons (opStep.buildSlice (E := 9) hp20 [.string (kWord k)] (by kernel_rfl) (fun g24 w22 hp23 => ?_))
    refine OPS.batch 1 {} [] [1, 5, 6] [.pointer (some ⟨g3, 0, none⟩), .pointer (some ⟨g18, 0, none⟩), .slice (some ⟨g24, 0, none⟩) 1 1] .nil (by kernel_rfl) (fun b25 => ?_)
    refine OPS.nil ?_
    refine thn_n ?_
    refine WP.seq ?_
    refine WP.seq ?_
    refine WP.pure {} [.bool true] [1, 5, 6, 22] [.pointer (some ⟨g3, 0, none⟩), .pointer (some ⟨g18, 0, none⟩), .slice (some ⟨g24, 0, none⟩) 1 1, .bool true] (.cons (Ld.row1 (P := Tryd.prog) (t := 4) (o := 1) (v := .bool true) hp23.get1 (by kernel_rfl)) .nil) (by kernel_rfl) (fun b26 => ?_)
    refine thn_n ?_
    refine WP.condT rfl ?_
    refine WP.region _ rfl (by kernel_rfl) ?_
    refine OPS.batch 3 {} [.int .i64 A] [1, 5, 23, 25] [.pointer (some ⟨g3, 0, none⟩), .pointer (some ⟨g18, 0, none⟩), .slice (some ⟨g24, 0, none⟩) 1 1, .int .i64 A] (.cons (Ld.row1 (P := Tryd.prog) (t := 3) (o := 1) (v := .int .i64 A) hp23.get2 (by kernel_rfl)) .nil) (by kernel_rfl) (fun b27 => ?_)
    refine OPS.cons (opStep.call (some 26) [.int .i64 A] (by kernel_rfl) (itoa_c A (by omega) (by omega) _ (hl.lib.fram hp23.fr)) ?_)
    rintro _ w30 ⟨rfl, hf31⟩
    refine ⟨_, rfl, ?_⟩
    have hp32 := hp23.step hf31
    refine OPS.cons (opStep.buildSlice (E := 9) hp32 [.string (itoaT A)] (by kernel_rfl) (fun g35 w33 hp34 => ?_))
    have hp38 := hp34.pull1
    have hp39 := (show Hp w Non [Res.own 9 1 (.slice (some ⟨g24, 0, none⟩) 1 1) 1 (List.flatMap strc [kWord k]), Res.row g35 [.string (itoaT A)] 9, Res.row g18 [.string (kWord k), .bool true, .bool false, .bool false, .bool false, .bool false, .bool false] 56, Res.row g3 [.int .i64 k, .int .i64 A, .int .i64 B, .string Ky, .slice V.a V.n V.c, .slice L.a L.n L.c] 31] w33 from hp38.rowOwnN (sz := 1) (n := 1) rfl (by decide))
    refine OPS.cons (opStep.append0 [.string (itoaT A)] hp39 16 (by kernel_rfl) rfl rfl rfl (SlR.row (n := 1) hp39.get1 rfl).rd (List.all_eq_true.1 (by kernel_rfl)) (by decide) (by omega) (by omega) (fun a40 c41 w42 hp43 hn44 => ?_))
    rw [(show List.flatMap strc [kWord k] ++ [.string (itoaT A)] = List.flatMap strc ([kWord k] ++ [itoaT A]) from (List.flatMap_append (xs := [kWord k]) (ys := [itoaT A])).symm)] at hp43
    refine OPS.batch 1 {} [] [1, 5, 6] [.pointer (some ⟨g3, 0, none⟩), .pointer (some ⟨g18, 0, none⟩), .slice a40 (1 + 1) c41] .nil (by kernel_rfl) (fun b45 => ?_)
    refine OPS.nil ?_
    refine thn_n ?_
    refine WP.seq ?_
    refine WP.seq ?_
    refine WP.pure {} [.bool false] [1, 5, 6, 30] [.pointer (some ⟨g3, 0, none⟩), .pointer (some ⟨g18, 0, none⟩), .slice a40 (1 + 1) c41, .bool false] (.cons (Ld.row1 (P := Tryd.prog) (t := 4) (o := 2) (v := .bool false) hp43.get2 (by kernel_rfl)) .nil) (by kernel_rfl) (fun b46 => ?_)
    refine thn_n ?_
    refine WP.condF rfl ?_
    refine WP.skip ?_
    refine thn_n ?_
    refine WP.seq ?_
    refine WP.seq ?_
    refine WP.pure {} [.bool false] [1, 5, 6, 38] [.pointer (some ⟨g3, 0, none⟩), .pointer (some ⟨g18, 0, none⟩), .slice a40 (1 + 1) c41, .bool false] (.cons (Ld.row1 (P := Tryd.prog) (t := 4) (o := 3) (v := .bool false) hp43.get2 (by kernel_rfl)) .nil) (by kernel_rfl) (fun b47 => ?_)
    refine thn_n ?_
    refine WP.condF rfl ?_
    refine WP.skip ?_
    refine thn_n ?_
    refine WP.seq ?_
    refine WP.seq ?_
    refine WP.pure {} [.bool false] [1, 6, 46] [.pointer (some ⟨g3, 0, none⟩), .slice a40 (1 + 1) c41, .bool false] (.cons (Ld.row1 (P := Tryd.prog) (t := 4) (o := 4) (v := .bool false) hp43.get2 (by kernel_rfl)) .nil) (by kernel_rfl) (fun b48 => ?_)
    refine thn_n ?_
    refine WP.condF rfl ?_
    refine WP.skip ?_
    refine thn_n ?_
    refine WP.seq ?_
    refine WP.seq ?_
    refine WP.pure {} [.slice L.a L.n L.c] [6, 55, 56, 57] [.slice a40 (1 + 1) c41, .slice L.a L.n L.c, .int .i64 ((L.n : Nat) : Int), .int .i64 0] (.cons (Ld.row1 (P := Tryd.prog) (t := 29) (o := 5) (v := .slice L.a L.n L.c) hp43.get3 (by kernel_rfl)) .nil) (by kernel_rfl) (fun b49 => ?_)
    refine thn_n ?_
    refine WP.block ?_
    refine WP.loop (fun mz_ e50 w51 => ∃ (j : Nat) (xs : List ByteArray) (ao : Option Addr) (no : Nat) (co : Nat), mz_ = l.length - j ∧ (j ≤ l.length ∧ xs = [kWord k, itoaT A] ++ (l.take j).map itoaT) ∧ List.map e50 [6, 55, 56, 57] = [.slice ao no co, .slice L.a L.n L.c, .int .i64 ((L.n : Nat) : Int), .int .i64 (j : Int)] ∧ Hp w Non [Res.own 9 1 (.slice ao no co) no (List.flatMap strc xs), Res.row g35 [.string (itoaT A)] 9, Res.row g18 [.string (kWord k), .bool true, .bool false, .bool false, .bool false, .bool false, .bool false] 56, Res.row g3 [.int .i64 k, .int .i64 A, .int .i64 B, .string Ky, .slice V.a V.n V.c, .slice L.a L.n L.c] 31] w51) (l.length - (0)) ⟨0, [kWord k] ++ [itoaT A], a40, 1 + 1, c41, rfl, ⟨by omega, rfl⟩, by kernel_rfl, hp43⟩ ?_
    rintro _ e50 w51 ⟨j, xs, ao, no, co, rfl, hI53, hE54, hp52⟩
    obtain ⟨b55, rfl⟩ := toMk hE54
    clear hE54
    obtain ⟨pa, pb⟩ := hI53
    have pe := own_flat (sz := 1) (fun _ => rfl) (by decide) hp52.get0
    have pl : xs.length = 2 + j := by rw [pb, List.length_append, List.length_map, List.length_take]; simp; omega
    have hlj : j < l.length → inI l[j]! := fun q => hi.2.2 _ (List.mem_of_getElem? (get_bang q))
    unfold inI at hlj
    refine WP.seq ?_
    refine WP.pure {} [] [6, 55, 56, 57, 58] [.slice ao no co, .slice L.a L.n L.c, .int .i64 ((L.n : Nat) : Int), .int .i64 (j : Int), .bool (decide ((j : Int) < ((L.n : Nat) : Int)))] .nil (by kernel_rfl) (fun b56 => ?_)
    refine thn_n ?_
    refine WP.seq ?_
    refine WP.test (p := (j : Int) < ((L.n : Nat) : Int)) rfl Bp.dec (fun h57 => ?_) (fun h57 => ?_)
    · refine WP.skip ?_
      refine thn_n ?_
      refine WP.seq ?_
      refine WP.block ?_
      refine WP.seq ?_
      have hy59 : (l)[j]? = some l[j]! := get_bang (by first | (omega) | (simp only [List.length_append, List.length_cons, List.length_nil]; omega) | (simp only [List.length_take, List.length_append, List.length_cons, List.length_nil]; omega))
      refine WP.pure {} [.int .i64 (l[j]!)] [6, 8, 55, 56, 57] [.slice ao no co, .int .i64 (l[j]!), .slice L.a L.n L.c, .int .i64 ((L.n : Nat) : Int), .int .i64 (j : Int)] (.cons (show InB ((j : Int)) (L.n) from ⟨by omega, by omega⟩) (.cons ((hL.at hp52).some (by omega)) (.cons (Ld.add0 (Ld.el1 (P := Tryd.prog) (t := 3) (hL.at hp52).rd 1 (fun _ => rfl) hy59 (o := 0) (v := .int .i64 (l[j]!)) (by kernel_rfl))) .nil))) (by kernel_rfl) (fun b60 => ?_)
      refine thn_n ?_
      refine WP.region _ rfl (by kernel_rfl) ?_
      refine OPS.batch 2 {} [] [55, 56, 57, 61, 62] [.slice L.a L.n L.c, .int .i64 ((L.n : Nat) : Int), .int .i64 (j : Int), .slice ao no co, .int .i64 (l[j]!)] .nil (by kernel_rfl) (fun b61 => ?_)
      refine OPS.cons (opStep.call (some 63) [.int .i64 (l[j]!)] (by kernel_rfl) (itoa_c (l[j]!) (by omega) (by omega) _ (hl.lib.fram hp52.fr)) ?_)
      rintro _ w64 ⟨rfl, hf65⟩
      refine ⟨_, rfl, ?_⟩
      have hp66 := hp52.step hf65
      refine OPS.cons (opStep.buildSlice (E := 9) hp66 [.string (itoaT (l[j]!))] (by kernel_rfl) (fun g69 w67 hp68 => ?_))
      refine OPS.cons (opStep.append1 [.string (itoaT (l[j]!))] hp68 16 (by kernel_rfl) rfl rfl rfl (SlR.row (n := 1) hp68.get0 rfl).rd (List.all_eq_true.1 (by kernel_rfl)) (by decide) (by omega) (by omega) (fun a72 c73 w74 hp75 hn76 => ?_))
      rw [(show List.flatMap strc xs ++ [.string (itoaT (l[j]!))] = List.flatMap strc (xs ++ [itoaT (l[j]!)]) from (List.flatMap_append (xs := xs) (ys := [itoaT (l[j]!)])).symm)] at hp75
      refine OPS.batch 1 {} [] [6, 55, 56, 57] [.slice a72 (no + 1) c73, .slice L.a L.n L.c, .int .i64 ((L.n : Nat) : Int), .int .i64 (j : Int)] .nil (by kernel_rfl) (fun b77 => ?_)
      refine OPS.nil ?_
      refine blk_n ?_
      refine thn_n ?_
      refine WP.pure {} [] [6, 55, 56, 57] [.slice a72 (no + 1) c73, .slice L.a L.n L.c, .int .i64 ((L.n : Nat) : Int), .int .i64 ((j : Int) + 1)] (.cons (show Rng .i64 ((j : Int) + 1) from Rng.i64 (by omega)) .nil) (by kernel_rfl) (fun b78 => ?_)
      refine thn_n ?_
      exact ⟨l.length - (j + 1), (by omega), j + 1, xs ++ [itoaT (l[j]!)], a72, no + 1, c73, rfl, ⟨by omega, by rw [pb, List.take_succ_eq_append_getElem (by omega), List.map_append, ← List.append_assoc]; rw [getElem!_pos l j (by omega)]; rfl⟩, by kernel_rfl, (hp75.sub (.cons _ (.cons_cons _ (.cons_cons _ (.cons_cons _ (.cons_cons _ (.slnil)))))))⟩
    · refine WP.exit ?_
      refine thn_x ?_
      refine thn_x ?_
      refine blk_hit ?_
      refine thn_n ?_
      refine WP.seq ?_
      obtain rfl : j = l.length := by omega
      have hwe : joinB xs = lineS ⟨k, A, B, Ky, valAt w V, l⟩ := by rw [pb, List.take_of_length_le (Nat.le_refl _)]; obtain ⟨f1, f2, f3, f4, f5, f6⟩ := hpa.fl; unfold lineS wordsS; simp only [f1, f2, f3, f4]; rfl
      refine WP.region _ rfl (by kernel_rfl) ?_
      refine OPS.batch 1 {} [] [67] [.slice ao no co] .nil (by kernel_rfl) (fun b79 => ?_)
      have hp82 := hp52.pull0
      have hjl := own_flat (sz := 1) (fun _ => rfl) (by decide) hp82.get0
      refine OPS.cons (opStep.call (some 68) [.slice ao no co, .string ⟨#[32]⟩] (by kernel_rfl) (join_c (by omega) (by omega) (by rw [hwe]; exact hjz) hp82) ?_)
      rintro _ w83 ⟨rfl, hf84⟩
      refine ⟨_, rfl, ?_⟩
      have hp85 := hp82.step hf84
      refine OPS.batch 2 {} [] [2, 3] [.string (joinB xs), .int .i64 0] .nil (by kernel_rfl) (fun b86 => ?_)
      refine OPS.nil ?_
      refine thn_n ?_
      refine WP.ret ?_
      refine bodyQ.of _ rfl [.string (joinB xs), .int .i64 0] ⟨rfl, rfl, trivial⟩ ?_
      have hck : chkI ⟨k, A, B, Ky, valAt w V, l⟩ = 0 := by have h_ := h13; omega
      exact ⟨by simp only [pack]; rw [hwe, hck, lineV_ok (chk_ok hck)], hp85.fr⟩

theorem sc_Line (s : GStep) (x : StepP) (w : World) (hl : LibS w) (hx : StR w Tr s x) (hs : smS x) : Calls Tryd.prog 12 #[GStep.val s] w (fun r_ w' => r_ = .returned (.tuple #[.string (lineV x), .int .i64 (chkI x)]) ∧ Fram Non w w') := by
  obtain ⟨K, A, B, Ky, V, L⟩ := s
  obtain ⟨K', A', B', Ky', v, l⟩ := x
  have h1 := hx.kind
  have h2 := hx.a
  have h3 := hx.b
  have h4 := hx.key
  have h5 := hx.val
  simp only at h1 h2 h3 h4 h5
  subst h1 h2 h3 h4 h5
  by_cases hk : 1 ≤ K ∧ K ≤ 16
  · rcases kcases hk with rfl | rfl | rfl | rfl | rfl | rfl | rfl | rfl | rfl | rfl | rfl | rfl | rfl | rfl | rfl | rfl
    · exact ln_k1 A B Ky V L l w hl hx hs
    · exact ln_k2 A B Ky V L l w hl hx hs
    · exact ln_kk 3 (by unfold PA; decide) A B Ky V L l w hl hx hs
    · exact ln_kk 4 (by unfold PA; decide) A B Ky V L l w hl hx hs
    · exact ln_kk 5 (by unfold PA; decide) A B Ky V L l w hl hx hs
    · exact ln_kk 6 (by unfold PA; decide) A B Ky V L l w hl hx hs
    · exact ln_kk 7 (by unfold PA; decide) A B Ky V L l w hl hx hs
    · exact ln_kk 8 (by unfold PA; decide) A B Ky V L l w hl hx hs
    · exact ln_k9 A B Ky V L l w hl hx hs
    · exact ln_k10 A B Ky V L l w hl hx hs
    · exact ln_kk 11 (by unfold PA; decide) A B Ky V L l w hl hx hs
    · exact ln_k12 A B Ky V L l w hl hx hs
    · exact ln_kk 13 (by unfold PA; decide) A B Ky V L l w hl hx hs
    · exact ln_k14 A B Ky V L l w hl hx hs
    · exact ln_kk 15 (by unfold PA; decide) A B Ky V L l w hl hx hs
    · exact ln_k16 A B Ky V L l w hl hx hs
  · exact ln_kno K hk A B Ky V L l w hl hx
end Go.Proofs.YtbpedjefoajegaaDoor.K
