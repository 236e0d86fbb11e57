/- Texts of this claim, merged: what the program's functions compute, and the rules that the walks use. -/
import Derived.Test.YtbpedjefoajegaaDoorProg
import Derived.Test.YtbpedjefoajegaaDoorZ1
import Derived.Test.YtbpedjefoajegaaDoorZ2
import Derived.Test.YtbpedjefoajegaaDoorZ4
namespace Go.Proofs.YtbpedjefoajegaaDoor.K
open Go Go.Proofs Go.RowKit
set_option linter.unusedVariables false
set_option linter.unusedSimpArgs false
set_option maxRecDepth 20000
set_option maxHeartbeats 4000000
noncomputable abbrev qb0 := (.agg #[.string ⟨#[112, 117, 116]⟩, bT, bF, bT, bT, bF, bF] : Go.Value)
noncomputable abbrev qb1 := ([.string ⟨#[112, 117, 116]⟩, bT, bF, bT, bT, bF, bF] : List Go.Value)
noncomputable abbrev qb2 := ([.string ByteArray.empty, bF, bF, bF, bF, bF, bF] : List Go.Value)
noncomputable abbrev qb3 := fun a0 a1 a2 => ([pP a0, pP a1, .slice (some ⟨a2, 0, none⟩) 1 1] : List Go.Value)
noncomputable abbrev qb4 := fun a0 a1 a2 => ([pP a0, pP a1, .slice (some ⟨a2, 0, none⟩) 1 1, bT] : List Go.Value)
noncomputable abbrev qb5 := fun a0 a1 a2 a3 => ([pP a0, pP a1, .slice (some ⟨a2, 0, none⟩) 1 1, iI a3] : List Go.Value)
noncomputable abbrev qb6 := fun a0 => ([.string (joinB a0), iI 0] : List Go.Value)
noncomputable abbrev qb7 := (.agg #[.string ⟨#[103, 101, 116]⟩, bT, bF, bT, bF, bF, bF] : Go.Value)
noncomputable abbrev qb8 := ([.string ⟨#[103, 101, 116]⟩, bT, bF, bT, bF, bF, bF] : List Go.Value)
noncomputable abbrev qb9 := (.agg #[.string ⟨#[98, 117, 114, 115, 116]⟩, bT, bT, bF, bF, bT, bF] : Go.Value)
noncomputable abbrev qb10 := ([.string ⟨#[98, 117, 114, 115, 116]⟩, bT, bT, bF, bF, bT, bF] : List Go.Value)
noncomputable abbrev qb11 := (.agg #[.string ⟨#[99, 117, 116]⟩, bT, bT, bF, bF, bF, bF] : Go.Value)
noncomputable abbrev qb12 := ([.string ⟨#[99, 117, 116]⟩, bT, bT, bF, bF, bF, bF] : List Go.Value)
noncomputable abbrev qb13 := (.agg #[.string ⟨#[99, 114, 97, 115, 104]⟩, bT, bF, bF, bF, bF, bT] : Go.Value)
noncomputable abbrev qb14 := ([.string ⟨#[99, 114, 97, 115, 104]⟩, bT, bF, bF, bF, bF, bT] : List Go.Value)
noncomputable abbrev qb15 := (.agg #[.string ⟨#[100, 105, 101]⟩, bT, bT, bF, bF, bF, bT] : Go.Value)
noncomputable abbrev qb16 := ([.string ⟨#[100, 105, 101]⟩, bT, bT, bF, bF, bF, bT] : List Go.Value)
noncomputable abbrev qb17 := (.agg #[.string ⟨#[114, 111, 117, 110, 100]⟩, bF, bT, bF, bF, bF, bT] : Go.Value)
noncomputable abbrev qb18 := ([.string ⟨#[114, 111, 117, 110, 100]⟩, bF, bT, bF, bF, bF, bT] : List Go.Value)
noncomputable abbrev qb19 := fun a0 => ([.string (kWord a0), bT, bF, bF, bF, bF, bF] : List Go.Value)

noncomputable def lineV (x : StepP) : ByteArray := if chkI x = 0 then lineS x else ⟨#[]⟩
theorem lineV_ok {x : StepP} (h : okS x) : lineV x = lineS x := by unfold lineV; rw [if_pos (chk_0 h)]
theorem lineV_no {x : StepP} (h : ¬ chkI x = 0) : lineV x = ⟨#[]⟩ := by unfold lineV; rw [if_neg h]
/-- What is asked of a step's size. -/
def smS (x : StepP) : Prop := inS x ∧ x.Key.size ≤ 1099511627776 ∧ x.Value.size ≤ 1099511627776 ∧ x.L.length ≤ 1099511627776
theorem itoa_le {n : Int} (h : inI n) : (itoaT n).size ≤ 21 := itoaT_size h.1 h.2
theorem hexT_size (b : ByteArray) : (hexT b).size ≤ 2 * b.size + 1 := by
  unfold hexT
  split
  · show 1 ≤ _; omega
  · rw [size_list, List.toList_toArray, hexL_len, ← size_list]; omega
theorem word_size (k : Int) : (kWord k).size ≤ 8 := by
  by_cases h : 1 ≤ k ∧ k ≤ 16
  · rcases kcases h with rfl | rfl | rfl | rfl | rfl | rfl | rfl | rfl | rfl | rfl | rfl | rfl | rfl | rfl | rfl | rfl <;> decide +kernel
  · unfold kWord
    rw [if_neg (by omega), if_neg (by omega), if_neg (by omega), if_neg (by omega), if_neg (by omega), if_neg (by omega), if_neg (by omega), if_neg (by omega), if_neg (by omega), if_neg (by omega), if_neg (by omega), if_neg (by omega), if_neg (by omega), if_neg (by omega), if_neg (by omega), if_neg (by omega)]
    decide
theorem join_sum : ∀ (ws : List ByteArray), (joinB ws).size ≤ (ws.map fun y => y.size + 1).sum
  | [] => by simp [joinB, Lib.join_nil]; rfl
  | [x] => by rw [joinB_one]; simp
  | x :: y :: r => by
    have ih := join_sum (y :: r)
    rw [joinB_cons, ByteArray.size_append, ByteArray.size_append, List.map_cons, List.sum_cons, show spL.size = 1 from rfl]
    omega
theorem sum_le {M : Nat} : ∀ (l : List Int), (∀ n ∈ l, (itoaT n).size ≤ M) → ((l.map itoaT).map fun y => y.size + 1).sum ≤ (M + 1) * l.length
  | [], _ => by simp
  | n :: l, h => by
    have ih := sum_le l fun y hy => h y (by simp [hy])
    have := h n (by simp)
    simp only [List.map_cons, List.sum_cons, List.length_cons]
    rw [Nat.mul_add]; omega
theorem line_size {x : StepP} (h : smS x) : (lineS x).size ≤ 2 * x.Key.size + 2 * x.Value.size + 22 * x.L.length + 60 := by
  have h1 := join_sum (wordsS x)
  have h2 := sum_le x.L fun n hn => itoa_le (h.1.2.2 n hn)
  have hk := hexT_size x.Key
  have hv := hexT_size x.Value
  have hw := word_size x.Kind
  have ha := itoa_le h.1.1
  have hb := itoa_le h.1.2.1
  have one : ∀ (c : Bool) (y : ByteArray), (((if c = true then [y] else []) : List ByteArray).map fun y => y.size + 1).sum ≤ y.size + 1 := fun c y => by cases c <;> simp
  have a := one (kA x.Kind) (itoaT x.A)
  have b := one (kB x.Kind) (itoaT x.B)
  have c := one (kK x.Kind) (hexT x.Key)
  have d := one (kV x.Kind) (hexT x.Value)
  unfold lineS
  refine Nat.le_trans h1 ?_
  unfold wordsS
  simp only [List.map_cons, List.map_append, List.sum_cons, List.sum_append]
  omega
theorem ln_kno (K : Int) (hk : ¬ (1 ≤ K ∧ K ≤ 16)) (A B : Int) (Ky : ByteArray) (V L : SlH) (l : List Int) (w : World) (hl : LibS w) (hx : StR w Tr ⟨K, A, B, Ky, V, L⟩ ⟨K, A, B, Ky, valAt w V, l⟩) :
  Calls Tryd.prog 12 #[GStep.val (⟨K, A, B, Ky, V, L⟩ : GStep)] w (fun r_ w' => r_ = .returned (.tuple #[.string (lineV ⟨K, A, B, Ky, valAt w V, l⟩), .int .i64 (chkI ⟨K, A, B, Ky, valAt w V, l⟩)]) ∧ Fram Non w w') := by
 refine calls_of Tryd.func12 rfl 69 rfl (by simp) ?_
 have hp0 := Hp.init w
 have he0 : List.map (env0 [GStep.val (⟨K, A, B, Ky, V, L⟩ : GStep)]) [0] = [GStep.val (⟨K, A, B, Ky, V, L⟩ : GStep)] := by kernel_rfl
 obtain ⟨b0, he0⟩ := toMk he0
 rw [he0]
 clear he0
 refine WP.seq (wR ?_)
 refine OPS.cons (opStep.box hp0 [iI K, iI A, iI B, .string Ky, .slice V.a V.n V.c, .slice L.a L.n L.c] (by kernel_rfl) (fun g3 w1 hp2 => ?_))
 refine oP 2 [1] [pP g3] fun b4 => ?_
 refine OPS.nil (thn_n (WP.seq (WP.seq (wR (oQ 1 {} [GStep.val (⟨K, A, B, Ky, V, L⟩ : GStep)] [1, 9] [pP g3, GStep.val (⟨K, A, B, Ky, V, L⟩ : GStep)] (.cons (lN 31 0 [iI K, iI A, iI B, .string Ky, .slice V.a V.n V.c, .slice L.a L.n L.c] hp2.get0) .nil) fun b5 => ?_)))))
 refine OPS.cons (opStep.call (some 10) [GStep.val (⟨K, A, B, Ky, V, L⟩ : GStep)] (by kernel_rfl) (sc_Check _ (⟨K, A, B, Ky, valAt w V, l⟩ : StepP) _ (hl.fram hp2.fr) (hx.fram hp2.fr)) ?_)
 rintro _ w8 ⟨rfl, hf9⟩
 refine ⟨_, rfl, ?_⟩
 have hp10 := hp2.step hf9
 refine oP 1 [1, 4] [pP g3, iI (chkI (⟨K, A, B, Ky, valAt w V, l⟩ : StepP))] fun b11 => ?_
 refine OPS.nil (thn_n (WP.seq (wP [1, 4, 12] [pP g3, iI (chkI (⟨K, A, B, Ky, valAt w V, l⟩ : StepP)), .bool (decide (¬ ((chkI (⟨K, A, B, Ky, valAt w V, l⟩ : StepP)) = 0)))] fun b12 => ?_)))
 refine thn_n ?_
 refine WP.test (p := ¬ ((chkI (⟨K, A, B, Ky, valAt w V, l⟩ : StepP)) = 0)) rfl Bp.dec (fun h13 => ?_) (fun h13 => ?_)
 ·refine WP.seq (wP [2, 3] [.string ⟨#[]⟩, iI (chkI (⟨K, A, B, Ky, valAt w V, l⟩ : StepP))] fun b14 => ?_)
  refine thn_n (WP.ret (thn_r ?_))
  refine bodyQ.of _ rfl [.string ⟨#[]⟩, iI (chkI (⟨K, A, B, Ky, valAt w V, l⟩ : StepP))] ⟨rfl, rfl, trivial⟩ ?_
  exact ⟨by simp only [pack]; rw [lineV_no h13], hp10.fr⟩
 ·replace h13 := Classical.not_not.1 h13
  refine WP.skip (thn_n (WP.seq ?_))
  exact absurd (chk_32 (x := ⟨K, A, B, Ky, valAt w V, l⟩) hk) (by have h_ := h13; omega)

theorem ln_k1 (A B : Int) (Ky : ByteArray) (V L : SlH) (l : List Int) (w : World) (hl : LibS w) (hx : StR w Tr ⟨1, A, B, Ky, V, L⟩ ⟨1, A, B, Ky, valAt w V, l⟩) (hs : smS ⟨1, A, B, Ky, valAt w V, l⟩) :
  Calls Tryd.prog 12 #[GStep.val (⟨1, A, B, Ky, V, L⟩ : GStep)] w (fun r_ w' => r_ = .returned (.tuple #[.string (lineV ⟨1, A, B, Ky, valAt w V, l⟩), .int .i64 (chkI ⟨1, A, B, Ky, valAt w V, l⟩)]) ∧ Fram Non w w') := by
 have hvb := hx.vb
 have hn := hx.ln
 have hL := hx.lr
 simp only at hvb hn hL
 have hi := hs.1
 have hA := hi.1
 have hB := hi.2.1
 unfold inI at hA hB
 have hsz1 := hs.2.1
 have hsz2 := hs.2.2.1
 have hsz3 := hs.2.2.2
 simp only at hA hB hsz1 hsz2 hsz3
 have hjz : (lineS ⟨1, A, B, Ky, valAt w V, l⟩).size ≤ 140737488355328 := by have h_ := line_size hs; simp only at h_; omega
 refine calls_of Tryd.func12 rfl 69 rfl (by simp) ?_
 have hp0 := Hp.init w
 have he0 : List.map (env0 [GStep.val (⟨1, A, B, Ky, V, L⟩ : GStep)]) [0] = [GStep.val (⟨1, A, B, Ky, V, L⟩ : GStep)] := by kernel_rfl
 obtain ⟨b0, he0⟩ := toMk he0
 rw [he0]
 clear he0
 refine WP.seq (wR ?_)
 refine OPS.cons (opStep.box hp0 [iI 1, iI A, iI B, .string Ky, .slice V.a V.n V.c, .slice L.a L.n L.c] (by kernel_rfl) (fun g3 w1 hp2 => ?_))
 refine oP 2 [1] [pP g3] fun b4 => ?_
 refine OPS.nil (thn_n (WP.seq (WP.seq (wR (oQ 1 {} [GStep.val (⟨1, A, B, Ky, V, L⟩ : GStep)] [1, 9] [pP g3, GStep.val (⟨1, A, B, Ky, V, L⟩ : GStep)] (.cons (lN 31 0 [iI 1, iI A, iI B, .string Ky, .slice V.a V.n V.c, .slice L.a L.n L.c] hp2.get0) .nil) fun b5 => ?_)))))
 refine OPS.cons (opStep.call (some 10) [GStep.val (⟨1, A, B, Ky, V, L⟩ : GStep)] (by kernel_rfl) (sc_Check _ (⟨1, A, B, Ky, valAt w V, l⟩ : StepP) _ (hl.fram hp2.fr) (hx.fram hp2.fr)) ?_)
 rintro _ w8 ⟨rfl, hf9⟩
 refine ⟨_, rfl, ?_⟩
 have hp10 := hp2.step hf9
 refine oP 1 [1, 4] [pP g3, iI (chkI (⟨1, A, B, Ky, valAt w V, l⟩ : StepP))] fun b11 => ?_
 refine OPS.nil (thn_n (WP.seq (wP [1, 4, 12] [pP g3, iI (chkI (⟨1, A, B, Ky, valAt w V, l⟩ : StepP)), .bool (decide (¬ ((chkI (⟨1, A, B, Ky, valAt w V, l⟩ : StepP)) = 0)))] fun b12 => ?_)))
 refine thn_n ?_
 refine WP.test (p := ¬ ((chkI (⟨1, A, B, Ky, valAt w V, l⟩ : StepP)) = 0)) rfl Bp.dec (fun h13 => ?_) (fun h13 => ?_)
 ·refine WP.seq (wP [2, 3] [.string ⟨#[]⟩, iI (chkI (⟨1, A, B, Ky, valAt w V, l⟩ : StepP))] fun b14 => ?_)
  refine thn_n (WP.ret (thn_r ?_))
  refine bodyQ.of _ rfl [.string ⟨#[]⟩, iI (chkI (⟨1, A, B, Ky, valAt w V, l⟩ : StepP))] ⟨rfl, rfl, trivial⟩ ?_
  exact ⟨by simp only [pack]; rw [lineV_no h13], hp10.fr⟩
 ·replace h13 := Classical.not_not.1 h13
  refine WP.skip (thn_n (WP.seq (wR (oQ 4 {} [iI 1, qb0] [1, 17] [pP g3, qb0] (.cons (l1 3 0 (iI 1) hp10.get0) (.cons (show InB (1) (17) from ⟨by omega, by omega⟩) (.cons (lN 56 7 qb1 (row_at hl.tab hp10.fr)) .nil))) fun b15 => ?_))))
  refine OPS.cons (opStep.alloc hp10 qb2 (by kernel_rfl) (fun g18 w16 hp17 => ?_))
  refine OPS.cons (opStep.store0 hp17 rfl qb1 qb1 (by kernel_rfl) (fun w19 hp20 => ?_))
  refine OPS.nil (thn_n (WP.seq (wR (oQ 2 {} [.string ⟨#[112, 117, 116]⟩] [1, 5, 19] [pP g3, pP g18, .string ⟨#[112, 117, 116]⟩] (.cons (l1 9 0 (.string ⟨#[112, 117, 116]⟩) hp20.get0) .nil) fun b21 => ?_))))
  refine OPS.cons (opStep.buildSlice (E := 9) hp20 [.string ⟨#[112, 117, 116]⟩] (by kernel_rfl) (fun g24 w22 hp23 => ?_))
  refine oP 1 [1, 5, 6] (qb3 g3 g18 g24) fun b25 => ?_
  refine OPS.nil (thn_n (WP.seq (WP.seq (wQ {} [bT] [1, 5, 6, 22] (qb4 g3 g18 g24) (.cons (l1 4 1 (bT) hp23.get1) .nil) fun b26 => ?_))))
  refine thn_n (WP.condT rfl (wR (oQ 3 {} [iI A] [1, 5, 23, 25] (qb5 g3 g18 g24 A) (.cons (l1 3 1 (iI A) hp23.get2) .nil) fun b27 => ?_)))
  refine OPS.cons (opStep.call (some 26) [iI A] (by kernel_rfl) (itoa_c A (by omega) (by omega) _ (hl.lib.fram hp23.fr)) ?_)
  rintro _ w30 ⟨rfl, hf31⟩
  refine ⟨_, rfl, ?_⟩
  have hp32 := hp23.step hf31
  refine OPS.cons (opStep.buildSlice (E := 9) hp32 [.string (itoaT A)] (by kernel_rfl) (fun g35 w33 hp34 => ?_))
  have hp38 := hp34.pull1
  have hp39 := (show Hp w Non [Res.own 9 1 (.slice (some ⟨g24, 0, none⟩) 1 1) 1 (List.flatMap strc [⟨#[112, 117, 116]⟩]), Res.row g35 [.string (itoaT A)] 9, Res.row g18 qb1 56, Res.row g3 [iI 1, iI A, iI B, .string Ky, .slice V.a V.n V.c, .slice L.a L.n L.c] 31] w33 from hp38.rowOwnN (sz := 1) (n := 1) rfl (by decide))
  refine OPS.cons (opStep.append0 [.string (itoaT A)] hp39 16 (by kernel_rfl) rfl rfl rfl (SlR.row (n := 1) hp39.get1 rfl).rd (List.all_eq_true.1 (by kernel_rfl)) (by decide) (by omega) (by omega) (fun a40 c41 w42 hp43 hn44 => ?_))
  rw [(show List.flatMap strc [⟨#[112, 117, 116]⟩] ++ [.string (itoaT A)] = List.flatMap strc ([⟨#[112, 117, 116]⟩] ++ [itoaT A]) from (List.flatMap_append (xs := [⟨#[112, 117, 116]⟩]) (ys := [itoaT A])).symm)] at hp43
  refine oP 1 [1, 5, 6] [pP g3, pP g18, .slice a40 (1 + 1) c41] fun b45 => ?_
  refine OPS.nil (thn_n (WP.seq (WP.seq (wQ {} [bF] [1, 5, 6, 30] [pP g3, pP g18, .slice a40 (1 + 1) c41, bF] (.cons (l1 4 2 (bF) hp43.get2) .nil) fun b46 => ?_))))
  refine thn_n (WP.condF rfl (WP.skip (thn_n (WP.seq (WP.seq (wQ {} [bT] [1, 5, 6, 38] [pP g3, pP g18, .slice a40 (1 + 1) c41, bT] (.cons (l1 4 3 (bT) hp43.get2) .nil) fun b47 => ?_))))))
  refine thn_n (WP.condT rfl (wR (oQ 3 {} [.string Ky] [1, 5, 39, 41] [pP g3, pP g18, .slice a40 (1 + 1) c41, .string Ky] (.cons (l1 9 3 (.string Ky) hp43.get3) .nil) fun b48 => ?_)))
  refine OPS.cons (opStep.call (some 42) [.string Ky] (by kernel_rfl) (sc_written Ky (by omega) _) ?_)
  rintro _ w51 ⟨rfl, hf52⟩
  refine ⟨_, rfl, ?_⟩
  have hp53 := hp43.step hf52
  refine OPS.cons (opStep.buildSlice (E := 9) hp53 [.string (hexT Ky)] (by kernel_rfl) (fun g56 w54 hp55 => ?_))
  refine OPS.cons (opStep.append1 [.string (hexT Ky)] hp55 16 (by kernel_rfl) rfl rfl rfl (SlR.row (n := 1) hp55.get0 rfl).rd (List.all_eq_true.1 (by kernel_rfl)) (by decide) (by omega) (by omega) (fun a59 c60 w61 hp62 hn63 => ?_))
  rw [(show List.flatMap strc ([⟨#[112, 117, 116]⟩] ++ [itoaT A]) ++ [.string (hexT Ky)] = List.flatMap strc (([⟨#[112, 117, 116]⟩] ++ [itoaT A]) ++ [hexT Ky]) from (List.flatMap_append (xs := [⟨#[112, 117, 116]⟩] ++ [itoaT A]) (ys := [hexT Ky])).symm)] at hp62
  refine oP 1 [1, 5, 6] [pP g3, pP g18, .slice a59 (1 + 1 + 1) c60] fun b64 => ?_
  refine OPS.nil (thn_n (WP.seq (WP.seq (wQ {} [bT] [1, 6, 46] [pP g3, .slice a59 (1 + 1 + 1) c60, bT] (.cons (l1 4 4 (bT) hp62.get3) .nil) fun b65 => ?_))))
  refine thn_n (WP.condT rfl (wR (oQ 4 {} [.slice V.a V.n V.c, .string (valAt w V)] [1, 47, 50] [pP g3, .slice a59 (1 + 1 + 1) c60, .string (valAt w V)] (.cons (l1 28 4 (.slice V.a V.n V.c) hp62.get4) (.cons (VB.bs (P := Tryd.prog) hvb hp62) .nil)) fun b66 => ?_)))
  refine OPS.cons (opStep.call (some 51) [.string (valAt w V)] (by kernel_rfl) (sc_written (valAt w V) (by omega) _) ?_)
  rintro _ w69 ⟨rfl, hf70⟩
  refine ⟨_, rfl, ?_⟩
  have hp71 := hp62.step hf70
  refine OPS.cons (opStep.buildSlice (E := 9) hp71 [.string (hexT (valAt w V))] (by kernel_rfl) (fun g74 w72 hp73 => ?_))
  refine OPS.cons (opStep.append2 [.string (hexT (valAt w V))] hp73 16 (by kernel_rfl) rfl rfl rfl (SlR.row (n := 1) hp73.get0 rfl).rd (List.all_eq_true.1 (by kernel_rfl)) (by decide) (by omega) (by omega) (fun a77 c78 w79 hp80 hn81 => ?_))
  rw [(show List.flatMap strc (([⟨#[112, 117, 116]⟩] ++ [itoaT A]) ++ [hexT Ky]) ++ [.string (hexT (valAt w V))] = List.flatMap strc ((([⟨#[112, 117, 116]⟩] ++ [itoaT A]) ++ [hexT Ky]) ++ [hexT (valAt w V)]) from (List.flatMap_append (xs := ([⟨#[112, 117, 116]⟩] ++ [itoaT A]) ++ [hexT Ky]) (ys := [hexT (valAt w V)])).symm)] at hp80
  refine oP 1 [1, 6] [pP g3, .slice a77 (1 + 1 + 1 + 1) c78] fun b82 => ?_
  refine OPS.nil (thn_n (WP.seq (WP.seq (wQ {} [.slice L.a L.n L.c] [6, 55, 56, 57] [.slice a77 (1 + 1 + 1 + 1) c78, .slice L.a L.n L.c, iI ((L.n : Nat) : Int), iI 0] (.cons (l1 29 5 (.slice L.a L.n L.c) hp80.get5) .nil) fun b83 => ?_))))
  refine thn_n (WP.block ?_)
  refine WP.loop (fun mz_ e84 w85 => ∃ (j : Nat) (xs : List ByteArray) (ao : Option Addr) (no : Nat) (co : Nat), mz_ = l.length - j ∧ (j ≤ l.length ∧ xs = [⟨#[112, 117, 116]⟩, itoaT A, hexT Ky, hexT (valAt w V)] ++ (l.take j).map itoaT) ∧ List.map e84 [6, 55, 56, 57] = [.slice ao no co, .slice L.a L.n L.c, iI ((L.n : Nat) : Int), iI (j : Int)] ∧ Hp w Non [Res.own 9 1 (.slice ao no co) no (List.flatMap strc xs), Res.row g74 [.string (hexT (valAt w V))] 9, Res.row g56 [.string (hexT Ky)] 9, Res.row g35 [.string (itoaT A)] 9, Res.row g18 qb1 56, Res.row g3 [iI 1, iI A, iI B, .string Ky, .slice V.a V.n V.c, .slice L.a L.n L.c] 31] w85) (l.length - (0)) ⟨0, (([⟨#[112, 117, 116]⟩] ++ [itoaT A]) ++ [hexT Ky]) ++ [hexT (valAt w V)], a77, 1 + 1 + 1 + 1, c78, rfl, ⟨by omega, rfl⟩, by kernel_rfl, (((((((hp80.pull5).pull5).pull5).pull4).pull4).pull5).sub (.cons_cons _ (.cons_cons _ (.cons_cons _ (.cons_cons _ (.cons_cons _ (.cons_cons _ (.slnil))))))))⟩ ?_
  rintro _ e84 w85 ⟨j, xs, ao, no, co, rfl, hI87, hE88, hp86⟩
  obtain ⟨b89, rfl⟩ := toMk hE88
  clear hE88
  obtain ⟨pa, pb⟩ := hI87
  have pe := own_flat (sz := 1) (fun _ => rfl) (by decide) hp86.get0
  have pl : xs.length = 4 + j := by rw [pb, List.length_append, List.length_map, List.length_take]; simp; omega
  have hlj : j < l.length → inI l[j]! := fun q => hi.2.2 _ (List.mem_of_getElem? (get_bang q))
  unfold inI at hlj
  refine WP.seq (wP [6, 55, 56, 57, 58] [.slice ao no co, .slice L.a L.n L.c, iI ((L.n : Nat) : Int), iI (j : Int), .bool (decide ((j : Int) < ((L.n : Nat) : Int)))] fun b90 => ?_)
  refine thn_n (WP.seq ?_)
  refine WP.test (p := (j : Int) < ((L.n : Nat) : Int)) rfl Bp.dec (fun h91 => ?_) (fun h91 => ?_)
  ·refine WP.skip (thn_n (WP.seq (WP.block (WP.seq ?_))))
   have hy93 : (l)[j]? = some l[j]! := get_bang (by first | (omega) | (simp only [List.length_append, List.length_cons, List.length_nil]; omega) | (simp only [List.length_take, List.length_append, List.length_cons, List.length_nil]; omega))
   refine wQ {} [iI (l[j]!)] [6, 8, 55, 56, 57] [.slice ao no co, iI (l[j]!), .slice L.a L.n L.c, iI ((L.n : Nat) : Int), iI (j : Int)] (.cons (show InB ((j : Int)) (L.n) from ⟨by omega, by omega⟩) (.cons ((hL.at hp86).some (by omega)) (.cons (Ld.add0 (Ld.el1 (P := Tryd.prog) (t := 3) (hL.at hp86).rd 1 (fun _ => rfl) hy93 (o := 0) (v := iI (l[j]!)) (by kernel_rfl))) .nil))) fun b94 => ?_
   refine thn_n (wR (oP 2 [55, 56, 57, 61, 62] [.slice L.a L.n L.c, iI ((L.n : Nat) : Int), iI (j : Int), .slice ao no co, iI (l[j]!)] fun b95 => ?_))
   refine OPS.cons (opStep.call (some 63) [iI (l[j]!)] (by kernel_rfl) (itoa_c (l[j]!) (by omega) (by omega) _ (hl.lib.fram hp86.fr)) ?_)
   rintro _ w98 ⟨rfl, hf99⟩
   refine ⟨_, rfl, ?_⟩
   have hp100 := hp86.step hf99
   refine OPS.cons (opStep.buildSlice (E := 9) hp100 [.string (itoaT (l[j]!))] (by kernel_rfl) (fun g103 w101 hp102 => ?_))
   refine OPS.cons (opStep.append1 [.string (itoaT (l[j]!))] hp102 16 (by kernel_rfl) rfl rfl rfl (SlR.row (n := 1) hp102.get0 rfl).rd (List.all_eq_true.1 (by kernel_rfl)) (by decide) (by omega) (by omega) (fun a106 c107 w108 hp109 hn110 => ?_))
   rw [(show List.flatMap strc xs ++ [.string (itoaT (l[j]!))] = List.flatMap strc (xs ++ [itoaT (l[j]!)]) from (List.flatMap_append (xs := xs) (ys := [itoaT (l[j]!)])).symm)] at hp109
   refine oP 1 [6, 55, 56, 57] [.slice a106 (no + 1) c107, .slice L.a L.n L.c, iI ((L.n : Nat) : Int), iI (j : Int)] fun b111 => ?_
   refine OPS.nil (blk_n (thn_n (wQ {} [] [6, 55, 56, 57] [.slice a106 (no + 1) c107, .slice L.a L.n L.c, iI ((L.n : Nat) : Int), iI ((j : Int) + 1)] (.cons (show Rng .i64 ((j : Int) + 1) from Rng.i64 (by omega)) .nil) fun b112 => ?_)))
   refine thn_n ?_
   exact ⟨l.length - (j + 1), (by omega), j + 1, xs ++ [itoaT (l[j]!)], a106, no + 1, c107, rfl, ⟨by omega, by rw [pb, List.take_succ_eq_append_getElem (by omega), List.map_append, ← List.append_assoc]; rw [getElem!_pos l j (by omega)]; rfl⟩, by kernel_rfl, (hp109.sub (.cons _ (.cons_cons _ (.cons_cons _ (.cons_cons _ (.cons_cons _ (.cons_cons _ (.cons_cons _ (.slnil)))))))))⟩
  ·refine WP.exit (thn_x (thn_x (blk_hit (thn_n (WP.seq ?_)))))
   obtain rfl : j = l.length := by omega
   have hwe : joinB xs = lineS ⟨1, A, B, Ky, valAt w V, l⟩ := by rw [pb, List.take_of_length_le (Nat.le_refl _)]; rfl
   refine wR (oP 1 [67] [.slice ao no co] fun b113 => ?_)
   have hp116 := hp86.pull0
   have hjl := own_flat (sz := 1) (fun _ => rfl) (by decide) hp116.get0
   refine OPS.cons (opStep.call (some 68) [.slice ao no co, .string ⟨#[32]⟩] (by kernel_rfl) (join_c (by omega) (by omega) (by rw [hwe]; exact hjz) hp116) ?_)
   rintro _ w117 ⟨rfl, hf118⟩
   refine ⟨_, rfl, ?_⟩
   have hp119 := hp116.step hf118
   refine oP 2 [2, 3] (qb6 xs) fun b120 => ?_
   refine OPS.nil (thn_n (WP.ret ?_))
   refine bodyQ.of _ rfl (qb6 xs) ⟨rfl, rfl, trivial⟩ ?_
   have hck : chkI ⟨1, A, B, Ky, valAt w V, l⟩ = 0 := by have h_ := h13; omega
   exact ⟨by simp only [pack]; rw [hwe, hck, lineV_ok (chk_ok hck)], hp119.fr⟩

theorem ln_k2 (A B : Int) (Ky : ByteArray) (V L : SlH) (l : List Int) (w : World) (hl : LibS w) (hx : StR w Tr ⟨2, A, B, Ky, V, L⟩ ⟨2, A, B, Ky, valAt w V, l⟩) (hs : smS ⟨2, A, B, Ky, valAt w V, l⟩) :
  Calls Tryd.prog 12 #[GStep.val (⟨2, A, B, Ky, V, L⟩ : GStep)] w (fun r_ w' => r_ = .returned (.tuple #[.string (lineV ⟨2, A, B, Ky, valAt w V, l⟩), .int .i64 (chkI ⟨2, A, B, Ky, valAt w V, l⟩)]) ∧ Fram Non w w') := by
 have hvb := hx.vb
 have hn := hx.ln
 have hL := hx.lr
 simp only at hvb hn hL
 have hi := hs.1
 have hA := hi.1
 have hB := hi.2.1
 unfold inI at hA hB
 have hsz1 := hs.2.1
 have hsz2 := hs.2.2.1
 have hsz3 := hs.2.2.2
 simp only at hA hB hsz1 hsz2 hsz3
 have hjz : (lineS ⟨2, A, B, Ky, valAt w V, l⟩).size ≤ 140737488355328 := by have h_ := line_size hs; simp only at h_; omega
 refine calls_of Tryd.func12 rfl 69 rfl (by simp) ?_
 have hp0 := Hp.init w
 have he0 : List.map (env0 [GStep.val (⟨2, A, B, Ky, V, L⟩ : GStep)]) [0] = [GStep.val (⟨2, A, B, Ky, V, L⟩ : GStep)] := by kernel_rfl
 obtain ⟨b0, he0⟩ := toMk he0
 rw [he0]
 clear he0
 refine WP.seq (wR ?_)
 refine OPS.cons (opStep.box hp0 [iI 2, iI A, iI B, .string Ky, .slice V.a V.n V.c, .slice L.a L.n L.c] (by kernel_rfl) (fun g3 w1 hp2 => ?_))
 refine oP 2 [1] [pP g3] fun b4 => ?_
 refine OPS.nil (thn_n (WP.seq (WP.seq (wR (oQ 1 {} [GStep.val (⟨2, A, B, Ky, V, L⟩ : GStep)] [1, 9] [pP g3, GStep.val (⟨2, A, B, Ky, V, L⟩ : GStep)] (.cons (lN 31 0 [iI 2, iI A, iI B, .string Ky, .slice V.a V.n V.c, .slice L.a L.n L.c] hp2.get0) .nil) fun b5 => ?_)))))
 refine OPS.cons (opStep.call (some 10) [GStep.val (⟨2, A, B, Ky, V, L⟩ : GStep)] (by kernel_rfl) (sc_Check _ (⟨2, A, B, Ky, valAt w V, l⟩ : StepP) _ (hl.fram hp2.fr) (hx.fram hp2.fr)) ?_)
 rintro _ w8 ⟨rfl, hf9⟩
 refine ⟨_, rfl, ?_⟩
 have hp10 := hp2.step hf9
 refine oP 1 [1, 4] [pP g3, iI (chkI (⟨2, A, B, Ky, valAt w V, l⟩ : StepP))] fun b11 => ?_
 refine OPS.nil (thn_n (WP.seq (wP [1, 4, 12] [pP g3, iI (chkI (⟨2, A, B, Ky, valAt w V, l⟩ : StepP)), .bool (decide (¬ ((chkI (⟨2, A, B, Ky, valAt w V, l⟩ : StepP)) = 0)))] fun b12 => ?_)))
 refine thn_n ?_
 refine WP.test (p := ¬ ((chkI (⟨2, A, B, Ky, valAt w V, l⟩ : StepP)) = 0)) rfl Bp.dec (fun h13 => ?_) (fun h13 => ?_)
 ·refine WP.seq (wP [2, 3] [.string ⟨#[]⟩, iI (chkI (⟨2, A, B, Ky, valAt w V, l⟩ : StepP))] fun b14 => ?_)
  refine thn_n (WP.ret (thn_r ?_))
  refine bodyQ.of _ rfl [.string ⟨#[]⟩, iI (chkI (⟨2, A, B, Ky, valAt w V, l⟩ : StepP))] ⟨rfl, rfl, trivial⟩ ?_
  exact ⟨by simp only [pack]; rw [lineV_no h13], hp10.fr⟩
 ·replace h13 := Classical.not_not.1 h13
  refine WP.skip (thn_n (WP.seq (wR (oQ 4 {} [iI 2, qb7] [1, 17] [pP g3, qb7] (.cons (l1 3 0 (iI 2) hp10.get0) (.cons (show InB (2) (17) from ⟨by omega, by omega⟩) (.cons (lN 56 14 qb8 (row_at hl.tab hp10.fr)) .nil))) fun b15 => ?_))))
  refine OPS.cons (opStep.alloc hp10 qb2 (by kernel_rfl) (fun g18 w16 hp17 => ?_))
  refine OPS.cons (opStep.store0 hp17 rfl qb8 qb8 (by kernel_rfl) (fun w19 hp20 => ?_))
  refine OPS.nil (thn_n (WP.seq (wR (oQ 2 {} [.string ⟨#[103, 101, 116]⟩] [1, 5, 19] [pP g3, pP g18, .string ⟨#[103, 101, 116]⟩] (.cons (l1 9 0 (.string ⟨#[103, 101, 116]⟩) hp20.get0) .nil) fun b21 => ?_))))
  refine OPS.cons (opStep.buildSlice (E := 9) hp20 [.string ⟨#[103, 101, 116]⟩] (by kernel_rfl) (fun g24 w22 hp23 => ?_))
  refine oP 1 [1, 5, 6] (qb3 g3 g18 g24) fun b25 => ?_
  refine OPS.nil (thn_n (WP.seq (WP.seq (wQ {} [bT] [1, 5, 6, 22] (qb4 g3 g18 g24) (.cons (l1 4 1 (bT) hp23.get1) .nil) fun b26 => ?_))))
  refine thn_n (WP.condT rfl (wR (oQ 3 {} [iI A] [1, 5, 23, 25] (qb5 g3 g18 g24 A) (.cons (l1 3 1 (iI A) hp23.get2) .nil) fun b27 => ?_)))
  refine OPS.cons (opStep.call (some 26) [iI A] (by kernel_rfl) (itoa_c A (by omega) (by omega) _ (hl.lib.fram hp23.fr)) ?_)
  rintro _ w30 ⟨rfl, hf31⟩
  refine ⟨_, rfl, ?_⟩
  have hp32 := hp23.step hf31
  refine OPS.cons (opStep.buildSlice (E := 9) hp32 [.string (itoaT A)] (by kernel_rfl) (fun g35 w33 hp34 => ?_))
  have hp38 := hp34.pull1
  have hp39 := (show Hp w Non [Res.own 9 1 (.slice (some ⟨g24, 0, none⟩) 1 1) 1 (List.flatMap strc [⟨#[103, 101, 116]⟩]), Res.row g35 [.string (itoaT A)] 9, Res.row g18 qb8 56, Res.row g3 [iI 2, iI A, iI B, .string Ky, .slice V.a V.n V.c, .slice L.a L.n L.c] 31] w33 from hp38.rowOwnN (sz := 1) (n := 1) rfl (by decide))
  refine OPS.cons (opStep.append0 [.string (itoaT A)] hp39 16 (by kernel_rfl) rfl rfl rfl (SlR.row (n := 1) hp39.get1 rfl).rd (List.all_eq_true.1 (by kernel_rfl)) (by decide) (by omega) (by omega) (fun a40 c41 w42 hp43 hn44 => ?_))
  rw [(show List.flatMap strc [⟨#[103, 101, 116]⟩] ++ [.string (itoaT A)] = List.flatMap strc ([⟨#[103, 101, 116]⟩] ++ [itoaT A]) from (List.flatMap_append (xs := [⟨#[103, 101, 116]⟩]) (ys := [itoaT A])).symm)] at hp43
  refine oP 1 [1, 5, 6] [pP g3, pP g18, .slice a40 (1 + 1) c41] fun b45 => ?_
  refine OPS.nil (thn_n (WP.seq (WP.seq (wQ {} [bF] [1, 5, 6, 30] [pP g3, pP g18, .slice a40 (1 + 1) c41, bF] (.cons (l1 4 2 (bF) hp43.get2) .nil) fun b46 => ?_))))
  refine thn_n (WP.condF rfl (WP.skip (thn_n (WP.seq (WP.seq (wQ {} [bT] [1, 5, 6, 38] [pP g3, pP g18, .slice a40 (1 + 1) c41, bT] (.cons (l1 4 3 (bT) hp43.get2) .nil) fun b47 => ?_))))))
  refine thn_n (WP.condT rfl (wR (oQ 3 {} [.string Ky] [1, 5, 39, 41] [pP g3, pP g18, .slice a40 (1 + 1) c41, .string Ky] (.cons (l1 9 3 (.string Ky) hp43.get3) .nil) fun b48 => ?_)))
  refine OPS.cons (opStep.call (some 42) [.string Ky] (by kernel_rfl) (sc_written Ky (by omega) _) ?_)
  rintro _ w51 ⟨rfl, hf52⟩
  refine ⟨_, rfl, ?_⟩
  have hp53 := hp43.step hf52
  refine OPS.cons (opStep.buildSlice (E := 9) hp53 [.string (hexT Ky)] (by kernel_rfl) (fun g56 w54 hp55 => ?_))
  refine OPS.cons (opStep.append1 [.string (hexT Ky)] hp55 16 (by kernel_rfl) rfl rfl rfl (SlR.row (n := 1) hp55.get0 rfl).rd (List.all_eq_true.1 (by kernel_rfl)) (by decide) (by omega) (by omega) (fun a59 c60 w61 hp62 hn63 => ?_))
  rw [(show List.flatMap strc ([⟨#[103, 101, 116]⟩] ++ [itoaT A]) ++ [.string (hexT Ky)] = List.flatMap strc (([⟨#[103, 101, 116]⟩] ++ [itoaT A]) ++ [hexT Ky]) from (List.flatMap_append (xs := [⟨#[103, 101, 116]⟩] ++ [itoaT A]) (ys := [hexT Ky])).symm)] at hp62
  refine oP 1 [1, 5, 6] [pP g3, pP g18, .slice a59 (1 + 1 + 1) c60] fun b64 => ?_
  refine OPS.nil (thn_n (WP.seq (WP.seq (wQ {} [bF] [1, 6, 46] [pP g3, .slice a59 (1 + 1 + 1) c60, bF] (.cons (l1 4 4 (bF) hp62.get3) .nil) fun b65 => ?_))))
  refine thn_n (WP.condF rfl (WP.skip (thn_n (WP.seq (WP.seq (wQ {} [.slice L.a L.n L.c] [6, 55, 56, 57] [.slice a59 (1 + 1 + 1) c60, .slice L.a L.n L.c, iI ((L.n : Nat) : Int), iI 0] (.cons (l1 29 5 (.slice L.a L.n L.c) hp62.get4) .nil) fun b66 => ?_))))))
  refine thn_n (WP.block ?_)
  refine WP.loop (fun mz_ e67 w68 => ∃ (j : Nat) (xs : List ByteArray) (ao : Option Addr) (no : Nat) (co : Nat), mz_ = l.length - j ∧ (j ≤ l.length ∧ xs = [⟨#[103, 101, 116]⟩, itoaT A, hexT Ky] ++ (l.take j).map itoaT) ∧ List.map e67 [6, 55, 56, 57] = [.slice ao no co, .slice L.a L.n L.c, iI ((L.n : Nat) : Int), iI (j : Int)] ∧ Hp w Non [Res.own 9 1 (.slice ao no co) no (List.flatMap strc xs), Res.row g56 [.string (hexT Ky)] 9, Res.row g35 [.string (itoaT A)] 9, Res.row g18 qb8 56, Res.row g3 [iI 2, iI A, iI B, .string Ky, .slice V.a V.n V.c, .slice L.a L.n L.c] 31] w68) (l.length - (0)) ⟨0, ([⟨#[103, 101, 116]⟩] ++ [itoaT A]) ++ [hexT Ky], a59, 1 + 1 + 1, c60, rfl, ⟨by omega, rfl⟩, by kernel_rfl, ((((((hp62.pull4).pull4).pull4).pull3).pull4).sub (.cons_cons _ (.cons_cons _ (.cons_cons _ (.cons_cons _ (.cons_cons _ (.slnil)))))))⟩ ?_
  rintro _ e67 w68 ⟨j, xs, ao, no, co, rfl, hI70, hE71, hp69⟩
  obtain ⟨b72, rfl⟩ := toMk hE71
  clear hE71
  obtain ⟨pa, pb⟩ := hI70
  have pe := own_flat (sz := 1) (fun _ => rfl) (by decide) hp69.get0
  have pl : xs.length = 3 + j := by rw [pb, List.length_append, List.length_map, List.length_take]; simp; omega
  have hlj : j < l.length → inI l[j]! := fun q => hi.2.2 _ (List.mem_of_getElem? (get_bang q))
  unfold inI at hlj
  refine WP.seq (wP [6, 55, 56, 57, 58] [.slice ao no co, .slice L.a L.n L.c, iI ((L.n : Nat) : Int), iI (j : Int), .bool (decide ((j : Int) < ((L.n : Nat) : Int)))] fun b73 => ?_)
  refine thn_n (WP.seq ?_)
  refine WP.test (p := (j : Int) < ((L.n : Nat) : Int)) rfl Bp.dec (fun h74 => ?_) (fun h74 => ?_)
  ·refine WP.skip (thn_n (WP.seq (WP.block (WP.seq ?_))))
   have hy76 : (l)[j]? = some l[j]! := get_bang (by first | (omega) | (simp only [List.length_append, List.length_cons, List.length_nil]; omega) | (simp only [List.length_take, List.length_append, List.length_cons, List.length_nil]; omega))
   refine wQ {} [iI (l[j]!)] [6, 8, 55, 56, 57] [.slice ao no co, iI (l[j]!), .slice L.a L.n L.c, iI ((L.n : Nat) : Int), iI (j : Int)] (.cons (show InB ((j : Int)) (L.n) from ⟨by omega, by omega⟩) (.cons ((hL.at hp69).some (by omega)) (.cons (Ld.add0 (Ld.el1 (P := Tryd.prog) (t := 3) (hL.at hp69).rd 1 (fun _ => rfl) hy76 (o := 0) (v := iI (l[j]!)) (by kernel_rfl))) .nil))) fun b77 => ?_
   refine thn_n (wR (oP 2 [55, 56, 57, 61, 62] [.slice L.a L.n L.c, iI ((L.n : Nat) : Int), iI (j : Int), .slice ao no co, iI (l[j]!)] fun b78 => ?_))
   refine OPS.cons (opStep.call (some 63) [iI (l[j]!)] (by kernel_rfl) (itoa_c (l[j]!) (by omega) (by omega) _ (hl.lib.fram hp69.fr)) ?_)
   rintro _ w81 ⟨rfl, hf82⟩
   refine ⟨_, rfl, ?_⟩
   have hp83 := hp69.step hf82
   refine OPS.cons (opStep.buildSlice (E := 9) hp83 [.string (itoaT (l[j]!))] (by kernel_rfl) (fun g86 w84 hp85 => ?_))
   refine OPS.cons (opStep.append1 [.string (itoaT (l[j]!))] hp85 16 (by kernel_rfl) rfl rfl rfl (SlR.row (n := 1) hp85.get0 rfl).rd (List.all_eq_true.1 (by kernel_rfl)) (by decide) (by omega) (by omega) (fun a89 c90 w91 hp92 hn93 => ?_))
   rw [(show List.flatMap strc xs ++ [.string (itoaT (l[j]!))] = List.flatMap strc (xs ++ [itoaT (l[j]!)]) from (List.flatMap_append (xs := xs) (ys := [itoaT (l[j]!)])).symm)] at hp92
   refine oP 1 [6, 55, 56, 57] [.slice a89 (no + 1) c90, .slice L.a L.n L.c, iI ((L.n : Nat) : Int), iI (j : Int)] fun b94 => ?_
   refine OPS.nil (blk_n (thn_n (wQ {} [] [6, 55, 56, 57] [.slice a89 (no + 1) c90, .slice L.a L.n L.c, iI ((L.n : Nat) : Int), iI ((j : Int) + 1)] (.cons (show Rng .i64 ((j : Int) + 1) from Rng.i64 (by omega)) .nil) fun b95 => ?_)))
   refine thn_n ?_
   exact ⟨l.length - (j + 1), (by omega), j + 1, xs ++ [itoaT (l[j]!)], a89, no + 1, c90, rfl, ⟨by omega, by rw [pb, List.take_succ_eq_append_getElem (by omega), List.map_append, ← List.append_assoc]; rw [getElem!_pos l j (by omega)]; rfl⟩, by kernel_rfl, (hp92.sub (.cons _ (.cons_cons _ (.cons_cons _ (.cons_cons _ (.cons_cons _ (.cons_cons _ (.slnil))))))))⟩
  ·refine WP.exit (thn_x (thn_x (blk_hit (thn_n (WP.seq ?_)))))
   obtain rfl : j = l.length := by omega
   have hwe : joinB xs = lineS ⟨2, A, B, Ky, valAt w V, l⟩ := by rw [pb, List.take_of_length_le (Nat.le_refl _)]; rfl
   refine wR (oP 1 [67] [.slice ao no co] fun b96 => ?_)
   have hp99 := hp69.pull0
   have hjl := own_flat (sz := 1) (fun _ => rfl) (by decide) hp99.get0
   refine OPS.cons (opStep.call (some 68) [.slice ao no co, .string ⟨#[32]⟩] (by kernel_rfl) (join_c (by omega) (by omega) (by rw [hwe]; exact hjz) hp99) ?_)
   rintro _ w100 ⟨rfl, hf101⟩
   refine ⟨_, rfl, ?_⟩
   have hp102 := hp99.step hf101
   refine oP 2 [2, 3] (qb6 xs) fun b103 => ?_
   refine OPS.nil (thn_n (WP.ret ?_))
   refine bodyQ.of _ rfl (qb6 xs) ⟨rfl, rfl, trivial⟩ ?_
   have hck : chkI ⟨2, A, B, Ky, valAt w V, l⟩ = 0 := by have h_ := h13; omega
   exact ⟨by simp only [pack]; rw [hwe, hck, lineV_ok (chk_ok hck)], hp102.fr⟩

theorem ln_k9 (A B : Int) (Ky : ByteArray) (V L : SlH) (l : List Int) (w : World) (hl : LibS w) (hx : StR w Tr ⟨9, A, B, Ky, V, L⟩ ⟨9, A, B, Ky, valAt w V, l⟩) (hs : smS ⟨9, A, B, Ky, valAt w V, l⟩) :
  Calls Tryd.prog 12 #[GStep.val (⟨9, A, B, Ky, V, L⟩ : GStep)] w (fun r_ w' => r_ = .returned (.tuple #[.string (lineV ⟨9, A, B, Ky, valAt w V, l⟩), .int .i64 (chkI ⟨9, A, B, Ky, valAt w V, l⟩)]) ∧ Fram Non w w') := by
 have hvb := hx.vb
 have hn := hx.ln
 have hL := hx.lr
 simp only at hvb hn hL
 have hi := hs.1
 have hA := hi.1
 have hB := hi.2.1
 unfold inI at hA hB
 have hsz1 := hs.2.1
 have hsz2 := hs.2.2.1
 have hsz3 := hs.2.2.2
 simp only at hA hB hsz1 hsz2 hsz3
 have hjz : (lineS ⟨9, A, B, Ky, valAt w V, l⟩).size ≤ 140737488355328 := by have h_ := line_size hs; simp only at h_; omega
 refine calls_of Tryd.func12 rfl 69 rfl (by simp) ?_
 have hp0 := Hp.init w
 have he0 : List.map (env0 [GStep.val (⟨9, A, B, Ky, V, L⟩ : GStep)]) [0] = [GStep.val (⟨9, A, B, Ky, V, L⟩ : GStep)] := by kernel_rfl
 obtain ⟨b0, he0⟩ := toMk he0
 rw [he0]
 clear he0
 refine WP.seq (wR ?_)
 refine OPS.cons (opStep.box hp0 [iI 9, iI A, iI B, .string Ky, .slice V.a V.n V.c, .slice L.a L.n L.c] (by kernel_rfl) (fun g3 w1 hp2 => ?_))
 refine oP 2 [1] [pP g3] fun b4 => ?_
 refine OPS.nil (thn_n (WP.seq (WP.seq (wR (oQ 1 {} [GStep.val (⟨9, A, B, Ky, V, L⟩ : GStep)] [1, 9] [pP g3, GStep.val (⟨9, A, B, Ky, V, L⟩ : GStep)] (.cons (lN 31 0 [iI 9, iI A, iI B, .string Ky, .slice V.a V.n V.c, .slice L.a L.n L.c] hp2.get0) .nil) fun b5 => ?_)))))
 refine OPS.cons (opStep.call (some 10) [GStep.val (⟨9, A, B, Ky, V, L⟩ : GStep)] (by kernel_rfl) (sc_Check _ (⟨9, A, B, Ky, valAt w V, l⟩ : StepP) _ (hl.fram hp2.fr) (hx.fram hp2.fr)) ?_)
 rintro _ w8 ⟨rfl, hf9⟩
 refine ⟨_, rfl, ?_⟩
 have hp10 := hp2.step hf9
 refine oP 1 [1, 4] [pP g3, iI (chkI (⟨9, A, B, Ky, valAt w V, l⟩ : StepP))] fun b11 => ?_
 refine OPS.nil (thn_n (WP.seq (wP [1, 4, 12] [pP g3, iI (chkI (⟨9, A, B, Ky, valAt w V, l⟩ : StepP)), .bool (decide (¬ ((chkI (⟨9, A, B, Ky, valAt w V, l⟩ : StepP)) = 0)))] fun b12 => ?_)))
 refine thn_n ?_
 refine WP.test (p := ¬ ((chkI (⟨9, A, B, Ky, valAt w V, l⟩ : StepP)) = 0)) rfl Bp.dec (fun h13 => ?_) (fun h13 => ?_)
 ·refine WP.seq (wP [2, 3] [.string ⟨#[]⟩, iI (chkI (⟨9, A, B, Ky, valAt w V, l⟩ : StepP))] fun b14 => ?_)
  refine thn_n (WP.ret (thn_r ?_))
  refine bodyQ.of _ rfl [.string ⟨#[]⟩, iI (chkI (⟨9, A, B, Ky, valAt w V, l⟩ : StepP))] ⟨rfl, rfl, trivial⟩ ?_
  exact ⟨by simp only [pack]; rw [lineV_no h13], hp10.fr⟩
 ·replace h13 := Classical.not_not.1 h13
  refine WP.skip (thn_n (WP.seq (wR (oQ 4 {} [iI 9, qb9] [1, 17] [pP g3, qb9] (.cons (l1 3 0 (iI 9) hp10.get0) (.cons (show InB (9) (17) from ⟨by omega, by omega⟩) (.cons (lN 56 63 qb10 (row_at hl.tab hp10.fr)) .nil))) fun b15 => ?_))))
  refine OPS.cons (opStep.alloc hp10 qb2 (by kernel_rfl) (fun g18 w16 hp17 => ?_))
  refine OPS.cons (opStep.store0 hp17 rfl qb10 qb10 (by kernel_rfl) (fun w19 hp20 => ?_))
  refine OPS.nil (thn_n (WP.seq (wR (oQ 2 {} [.string ⟨#[98, 117, 114, 115, 116]⟩] [1, 5, 19] [pP g3, pP g18, .string ⟨#[98, 117, 114, 115, 116]⟩] (.cons (l1 9 0 (.string ⟨#[98, 117, 114, 115, 116]⟩) hp20.get0) .nil) fun b21 => ?_))))
  refine OPS.cons (opStep.buildSlice (E := 9) hp20 [.string ⟨#[98, 117, 114, 115, 116]⟩] (by kernel_rfl) (fun g24 w22 hp23 => ?_))
  refine oP 1 [1, 5, 6] (qb3 g3 g18 g24) fun b25 => ?_
  refine OPS.nil (thn_n (WP.seq (WP.seq (wQ {} [bT] [1, 5, 6, 22] (qb4 g3 g18 g24) (.cons (l1 4 1 (bT) hp23.get1) .nil) fun b26 => ?_))))
  refine thn_n (WP.condT rfl (wR (oQ 3 {} [iI A] [1, 5, 23, 25] (qb5 g3 g18 g24 A) (.cons (l1 3 1 (iI A) hp23.get2) .nil) fun b27 => ?_)))
  refine OPS.cons (opStep.call (some 26) [iI A] (by kernel_rfl) (itoa_c A (by omega) (by omega) _ (hl.lib.fram hp23.fr)) ?_)
  rintro _ w30 ⟨rfl, hf31⟩
  refine ⟨_, rfl, ?_⟩
  have hp32 := hp23.step hf31
  refine OPS.cons (opStep.buildSlice (E := 9) hp32 [.string (itoaT A)] (by kernel_rfl) (fun g35 w33 hp34 => ?_))
  have hp38 := hp34.pull1
  have hp39 := (show Hp w Non [Res.own 9 1 (.slice (some ⟨g24, 0, none⟩) 1 1) 1 (List.flatMap strc [⟨#[98, 117, 114, 115, 116]⟩]), Res.row g35 [.string (itoaT A)] 9, Res.row g18 qb10 56, Res.row g3 [iI 9, iI A, iI B, .string Ky, .slice V.a V.n V.c, .slice L.a L.n L.c] 31] w33 from hp38.rowOwnN (sz := 1) (n := 1) rfl (by decide))
  refine OPS.cons (opStep.append0 [.string (itoaT A)] hp39 16 (by kernel_rfl) rfl rfl rfl (SlR.row (n := 1) hp39.get1 rfl).rd (List.all_eq_true.1 (by kernel_rfl)) (by decide) (by omega) (by omega) (fun a40 c41 w42 hp43 hn44 => ?_))
  rw [(show List.flatMap strc [⟨#[98, 117, 114, 115, 116]⟩] ++ [.string (itoaT A)] = List.flatMap strc ([⟨#[98, 117, 114, 115, 116]⟩] ++ [itoaT A]) from (List.flatMap_append (xs := [⟨#[98, 117, 114, 115, 116]⟩]) (ys := [itoaT A])).symm)] at hp43
  refine oP 1 [1, 5, 6] [pP g3, pP g18, .slice a40 (1 + 1) c41] fun b45 => ?_
  refine OPS.nil (thn_n (WP.seq (WP.seq (wQ {} [bT] [1, 5, 6, 30] [pP g3, pP g18, .slice a40 (1 + 1) c41, bT] (.cons (l1 4 2 (bT) hp43.get2) .nil) fun b46 => ?_))))
  refine thn_n (WP.condT rfl (wR (oQ 3 {} [iI B] [1, 5, 31, 33] [pP g3, pP g18, .slice a40 (1 + 1) c41, iI B] (.cons (l1 3 2 (iI B) hp43.get3) .nil) fun b47 => ?_)))
  refine OPS.cons (opStep.call (some 34) [iI B] (by kernel_rfl) (itoa_c B (by omega) (by omega) _ (hl.lib.fram hp43.fr)) ?_)
  rintro _ w50 ⟨rfl, hf51⟩
  refine ⟨_, rfl, ?_⟩
  have hp52 := hp43.step hf51
  refine OPS.cons (opStep.buildSlice (E := 9) hp52 [.string (itoaT B)] (by kernel_rfl) (fun g55 w53 hp54 => ?_))
  refine OPS.cons (opStep.append1 [.string (itoaT B)] hp54 16 (by kernel_rfl) rfl rfl rfl (SlR.row (n := 1) hp54.get0 rfl).rd (List.all_eq_true.1 (by kernel_rfl)) (by decide) (by omega) (by omega) (fun a58 c59 w60 hp61 hn62 => ?_))
  rw [(show List.flatMap strc ([⟨#[98, 117, 114, 115, 116]⟩] ++ [itoaT A]) ++ [.string (itoaT B)] = List.flatMap strc (([⟨#[98, 117, 114, 115, 116]⟩] ++ [itoaT A]) ++ [itoaT B]) from (List.flatMap_append (xs := [⟨#[98, 117, 114, 115, 116]⟩] ++ [itoaT A]) (ys := [itoaT B])).symm)] at hp61
  refine oP 1 [1, 5, 6] [pP g3, pP g18, .slice a58 (1 + 1 + 1) c59] fun b63 => ?_
  refine OPS.nil (thn_n (WP.seq (WP.seq (wQ {} [bF] [1, 5, 6, 38] [pP g3, pP g18, .slice a58 (1 + 1 + 1) c59, bF] (.cons (l1 4 3 (bF) hp61.get3) .nil) fun b64 => ?_))))
  refine thn_n (WP.condF rfl (WP.skip (thn_n (WP.seq (WP.seq (wQ {} [bF] [1, 6, 46] [pP g3, .slice a58 (1 + 1 + 1) c59, bF] (.cons (l1 4 4 (bF) hp61.get3) .nil) fun b65 => ?_))))))
  refine thn_n (WP.condF rfl (WP.skip (thn_n (WP.seq (WP.seq (wQ {} [.slice L.a L.n L.c] [6, 55, 56, 57] [.slice a58 (1 + 1 + 1) c59, .slice L.a L.n L.c, iI ((L.n : Nat) : Int), iI 0] (.cons (l1 29 5 (.slice L.a L.n L.c) hp61.get4) .nil) fun b66 => ?_))))))
  refine thn_n (WP.block ?_)
  refine WP.loop (fun mz_ e67 w68 => ∃ (j : Nat) (xs : List ByteArray) (ao : Option Addr) (no : Nat) (co : Nat), mz_ = l.length - j ∧ (j ≤ l.length ∧ xs = [⟨#[98, 117, 114, 115, 116]⟩, itoaT A, itoaT B] ++ (l.take j).map itoaT) ∧ List.map e67 [6, 55, 56, 57] = [.slice ao no co, .slice L.a L.n L.c, iI ((L.n : Nat) : Int), iI (j : Int)] ∧ Hp w Non [Res.own 9 1 (.slice ao no co) no (List.flatMap strc xs), Res.row g55 [.string (itoaT B)] 9, Res.row g35 [.string (itoaT A)] 9, Res.row g18 qb10 56, Res.row g3 [iI 9, iI A, iI B, .string Ky, .slice V.a V.n V.c, .slice L.a L.n L.c] 31] w68) (l.length - (0)) ⟨0, ([⟨#[98, 117, 114, 115, 116]⟩] ++ [itoaT A]) ++ [itoaT B], a58, 1 + 1 + 1, c59, rfl, ⟨by omega, rfl⟩, by kernel_rfl, ((((((hp61.pull4).pull4).pull4).pull3).pull4).sub (.cons_cons _ (.cons_cons _ (.cons_cons _ (.cons_cons _ (.cons_cons _ (.slnil)))))))⟩ ?_
  rintro _ e67 w68 ⟨j, xs, ao, no, co, rfl, hI70, hE71, hp69⟩
  obtain ⟨b72, rfl⟩ := toMk hE71
  clear hE71
  obtain ⟨pa, pb⟩ := hI70
  have pe := own_flat (sz := 1) (fun _ => rfl) (by decide) hp69.get0
  have pl : xs.length = 3 + j := by rw [pb, List.length_append, List.length_map, List.length_take]; simp; omega
  have hlj : j < l.length → inI l[j]! := fun q => hi.2.2 _ (List.mem_of_getElem? (get_bang q))
  unfold inI at hlj
  refine WP.seq (wP [6, 55, 56, 57, 58] [.slice ao no co, .slice L.a L.n L.c, iI ((L.n : Nat) : Int), iI (j : Int), .bool (decide ((j : Int) < ((L.n : Nat) : Int)))] fun b73 => ?_)
  refine thn_n (WP.seq ?_)
  refine WP.test (p := (j : Int) < ((L.n : Nat) : Int)) rfl Bp.dec (fun h74 => ?_) (fun h74 => ?_)
  ·refine WP.skip (thn_n (WP.seq (WP.block (WP.seq ?_))))
   have hy76 : (l)[j]? = some l[j]! := get_bang (by first | (omega) | (simp only [List.length_append, List.length_cons, List.length_nil]; omega) | (simp only [List.length_take, List.length_append, List.length_cons, List.length_nil]; omega))
   refine wQ {} [iI (l[j]!)] [6, 8, 55, 56, 57] [.slice ao no co, iI (l[j]!), .slice L.a L.n L.c, iI ((L.n : Nat) : Int), iI (j : Int)] (.cons (show InB ((j : Int)) (L.n) from ⟨by omega, by omega⟩) (.cons ((hL.at hp69).some (by omega)) (.cons (Ld.add0 (Ld.el1 (P := Tryd.prog) (t := 3) (hL.at hp69).rd 1 (fun _ => rfl) hy76 (o := 0) (v := iI (l[j]!)) (by kernel_rfl))) .nil))) fun b77 => ?_
   refine thn_n (wR (oP 2 [55, 56, 57, 61, 62] [.slice L.a L.n L.c, iI ((L.n : Nat) : Int), iI (j : Int), .slice ao no co, iI (l[j]!)] fun b78 => ?_))
   refine OPS.cons (opStep.call (some 63) [iI (l[j]!)] (by kernel_rfl) (itoa_c (l[j]!) (by omega) (by omega) _ (hl.lib.fram hp69.fr)) ?_)
   rintro _ w81 ⟨rfl, hf82⟩
   refine ⟨_, rfl, ?_⟩
   have hp83 := hp69.step hf82
   refine OPS.cons (opStep.buildSlice (E := 9) hp83 [.string (itoaT (l[j]!))] (by kernel_rfl) (fun g86 w84 hp85 => ?_))
   refine OPS.cons (opStep.append1 [.string (itoaT (l[j]!))] hp85 16 (by kernel_rfl) rfl rfl rfl (SlR.row (n := 1) hp85.get0 rfl).rd (List.all_eq_true.1 (by kernel_rfl)) (by decide) (by omega) (by omega) (fun a89 c90 w91 hp92 hn93 => ?_))
   rw [(show List.flatMap strc xs ++ [.string (itoaT (l[j]!))] = List.flatMap strc (xs ++ [itoaT (l[j]!)]) from (List.flatMap_append (xs := xs) (ys := [itoaT (l[j]!)])).symm)] at hp92
   refine oP 1 [6, 55, 56, 57] [.slice a89 (no + 1) c90, .slice L.a L.n L.c, iI ((L.n : Nat) : Int), iI (j : Int)] fun b94 => ?_
   refine OPS.nil (blk_n (thn_n (wQ {} [] [6, 55, 56, 57] [.slice a89 (no + 1) c90, .slice L.a L.n L.c, iI ((L.n : Nat) : Int), iI ((j : Int) + 1)] (.cons (show Rng .i64 ((j : Int) + 1) from Rng.i64 (by omega)) .nil) fun b95 => ?_)))
   refine thn_n ?_
   exact ⟨l.length - (j + 1), (by omega), j + 1, xs ++ [itoaT (l[j]!)], a89, no + 1, c90, rfl, ⟨by omega, by rw [pb, List.take_succ_eq_append_getElem (by omega), List.map_append, ← List.append_assoc]; rw [getElem!_pos l j (by omega)]; rfl⟩, by kernel_rfl, (hp92.sub (.cons _ (.cons_cons _ (.cons_cons _ (.cons_cons _ (.cons_cons _ (.cons_cons _ (.slnil))))))))⟩
  ·refine WP.exit (thn_x (thn_x (blk_hit (thn_n (WP.seq ?_)))))
   obtain rfl : j = l.length := by omega
   have hwe : joinB xs = lineS ⟨9, A, B, Ky, valAt w V, l⟩ := by rw [pb, List.take_of_length_le (Nat.le_refl _)]; rfl
   refine wR (oP 1 [67] [.slice ao no co] fun b96 => ?_)
   have hp99 := hp69.pull0
   have hjl := own_flat (sz := 1) (fun _ => rfl) (by decide) hp99.get0
   refine OPS.cons (opStep.call (some 68) [.slice ao no co, .string ⟨#[32]⟩] (by kernel_rfl) (join_c (by omega) (by omega) (by rw [hwe]; exact hjz) hp99) ?_)
   rintro _ w100 ⟨rfl, hf101⟩
   refine ⟨_, rfl, ?_⟩
   have hp102 := hp99.step hf101
   refine oP 2 [2, 3] (qb6 xs) fun b103 => ?_
   refine OPS.nil (thn_n (WP.ret ?_))
   refine bodyQ.of _ rfl (qb6 xs) ⟨rfl, rfl, trivial⟩ ?_
   have hck : chkI ⟨9, A, B, Ky, valAt w V, l⟩ = 0 := by have h_ := h13; omega
   exact ⟨by simp only [pack]; rw [hwe, hck, lineV_ok (chk_ok hck)], hp102.fr⟩

theorem ln_k10 (A B : Int) (Ky : ByteArray) (V L : SlH) (l : List Int) (w : World) (hl : LibS w) (hx : StR w Tr ⟨10, A, B, Ky, V, L⟩ ⟨10, A, B, Ky, valAt w V, l⟩) (hs : smS ⟨10, A, B, Ky, valAt w V, l⟩) :
  Calls Tryd.prog 12 #[GStep.val (⟨10, A, B, Ky, V, L⟩ : GStep)] w (fun r_ w' => r_ = .returned (.tuple #[.string (lineV ⟨10, A, B, Ky, valAt w V, l⟩), .int .i64 (chkI ⟨10, A, B, Ky, valAt w V, l⟩)]) ∧ Fram Non w w') := by
 have hvb := hx.vb
 have hn := hx.ln
 have hL := hx.lr
 simp only at hvb hn hL
 have hi := hs.1
 have hA := hi.1
 have hB := hi.2.1
 unfold inI at hA hB
 have hsz1 := hs.2.1
 have hsz2 := hs.2.2.1
 have hsz3 := hs.2.2.2
 simp only at hA hB hsz1 hsz2 hsz3
 have hjz : (lineS ⟨10, A, B, Ky, valAt w V, l⟩).size ≤ 140737488355328 := by have h_ := line_size hs; simp only at h_; omega
 refine calls_of Tryd.func12 rfl 69 rfl (by simp) ?_
 have hp0 := Hp.init w
 have he0 : List.map (env0 [GStep.val (⟨10, A, B, Ky, V, L⟩ : GStep)]) [0] = [GStep.val (⟨10, A, B, Ky, V, L⟩ : GStep)] := by kernel_rfl
 obtain ⟨b0, he0⟩ := toMk he0
 rw [he0]
 clear he0
 refine WP.seq (wR ?_)
 refine OPS.cons (opStep.box hp0 [iI 10, iI A, iI B, .string Ky, .slice V.a V.n V.c, .slice L.a L.n L.c] (by kernel_rfl) (fun g3 w1 hp2 => ?_))
 refine oP 2 [1] [pP g3] fun b4 => ?_
 refine OPS.nil (thn_n (WP.seq (WP.seq (wR (oQ 1 {} [GStep.val (⟨10, A, B, Ky, V, L⟩ : GStep)] [1, 9] [pP g3, GStep.val (⟨10, A, B, Ky, V, L⟩ : GStep)] (.cons (lN 31 0 [iI 10, iI A, iI B, .string Ky, .slice V.a V.n V.c, .slice L.a L.n L.c] hp2.get0) .nil) fun b5 => ?_)))))
 refine OPS.cons (opStep.call (some 10) [GStep.val (⟨10, A, B, Ky, V, L⟩ : GStep)] (by kernel_rfl) (sc_Check _ (⟨10, A, B, Ky, valAt w V, l⟩ : StepP) _ (hl.fram hp2.fr) (hx.fram hp2.fr)) ?_)
 rintro _ w8 ⟨rfl, hf9⟩
 refine ⟨_, rfl, ?_⟩
 have hp10 := hp2.step hf9
 refine oP 1 [1, 4] [pP g3, iI (chkI (⟨10, A, B, Ky, valAt w V, l⟩ : StepP))] fun b11 => ?_
 refine OPS.nil (thn_n (WP.seq (wP [1, 4, 12] [pP g3, iI (chkI (⟨10, A, B, Ky, valAt w V, l⟩ : StepP)), .bool (decide (¬ ((chkI (⟨10, A, B, Ky, valAt w V, l⟩ : StepP)) = 0)))] fun b12 => ?_)))
 refine thn_n ?_
 refine WP.test (p := ¬ ((chkI (⟨10, A, B, Ky, valAt w V, l⟩ : StepP)) = 0)) rfl Bp.dec (fun h13 => ?_) (fun h13 => ?_)
 ·refine WP.seq (wP [2, 3] [.string ⟨#[]⟩, iI (chkI (⟨10, A, B, Ky, valAt w V, l⟩ : StepP))] fun b14 => ?_)
  refine thn_n (WP.ret (thn_r ?_))
  refine bodyQ.of _ rfl [.string ⟨#[]⟩, iI (chkI (⟨10, A, B, Ky, valAt w V, l⟩ : StepP))] ⟨rfl, rfl, trivial⟩ ?_
  exact ⟨by simp only [pack]; rw [lineV_no h13], hp10.fr⟩
 ·replace h13 := Classical.not_not.1 h13
  refine WP.skip (thn_n (WP.seq (wR (oQ 4 {} [iI 10, qb11] [1, 17] [pP g3, qb11] (.cons (l1 3 0 (iI 10) hp10.get0) (.cons (show InB (10) (17) from ⟨by omega, by omega⟩) (.cons (lN 56 70 qb12 (row_at hl.tab hp10.fr)) .nil))) fun b15 => ?_))))
  refine OPS.cons (opStep.alloc hp10 qb2 (by kernel_rfl) (fun g18 w16 hp17 => ?_))
  refine OPS.cons (opStep.store0 hp17 rfl qb12 qb12 (by kernel_rfl) (fun w19 hp20 => ?_))
  refine OPS.nil (thn_n (WP.seq (wR (oQ 2 {} [.string ⟨#[99, 117, 116]⟩] [1, 5, 19] [pP g3, pP g18, .string ⟨#[99, 117, 116]⟩] (.cons (l1 9 0 (.string ⟨#[99, 117, 116]⟩) hp20.get0) .nil) fun b21 => ?_))))
  refine OPS.cons (opStep.buildSlice (E := 9) hp20 [.string ⟨#[99, 117, 116]⟩] (by kernel_rfl) (fun g24 w22 hp23 => ?_))
  refine oP 1 [1, 5, 6] (qb3 g3 g18 g24) fun b25 => ?_
  refine OPS.nil (thn_n (WP.seq (WP.seq (wQ {} [bT] [1, 5, 6, 22] (qb4 g3 g18 g24) (.cons (l1 4 1 (bT) hp23.get1) .nil) fun b26 => ?_))))
  refine thn_n (WP.condT rfl (wR (oQ 3 {} [iI A] [1, 5, 23, 25] (qb5 g3 g18 g24 A) (.cons (l1 3 1 (iI A) hp23.get2) .nil) fun b27 => ?_)))
  refine OPS.cons (opStep.call (some 26) [iI A] (by kernel_rfl) (itoa_c A (by omega) (by omega) _ (hl.lib.fram hp23.fr)) ?_)
  rintro _ w30 ⟨rfl, hf31⟩
  refine ⟨_, rfl, ?_⟩
  have hp32 := hp23.step hf31
  refine OPS.cons (opStep.buildSlice (E := 9) hp32 [.string (itoaT A)] (by kernel_rfl) (fun g35 w33 hp34 => ?_))
  have hp38 := hp34.pull1
  have hp39 := (show Hp w Non [Res.own 9 1 (.slice (some ⟨g24, 0, none⟩) 1 1) 1 (List.flatMap strc [⟨#[99, 117, 116]⟩]), Res.row g35 [.string (itoaT A)] 9, Res.row g18 qb12 56, Res.row g3 [iI 10, iI A, iI B, .string Ky, .slice V.a V.n V.c, .slice L.a L.n L.c] 31] w33 from hp38.rowOwnN (sz := 1) (n := 1) rfl (by decide))
  refine OPS.cons (opStep.append0 [.string (itoaT A)] hp39 16 (by kernel_rfl) rfl rfl rfl (SlR.row (n := 1) hp39.get1 rfl).rd (List.all_eq_true.1 (by kernel_rfl)) (by decide) (by omega) (by omega) (fun a40 c41 w42 hp43 hn44 => ?_))
  rw [(show List.flatMap strc [⟨#[99, 117, 116]⟩] ++ [.string (itoaT A)] = List.flatMap strc ([⟨#[99, 117, 116]⟩] ++ [itoaT A]) from (List.flatMap_append (xs := [⟨#[99, 117, 116]⟩]) (ys := [itoaT A])).symm)] at hp43
  refine oP 1 [1, 5, 6] [pP g3, pP g18, .slice a40 (1 + 1) c41] fun b45 => ?_
  refine OPS.nil (thn_n (WP.seq (WP.seq (wQ {} [bT] [1, 5, 6, 30] [pP g3, pP g18, .slice a40 (1 + 1) c41, bT] (.cons (l1 4 2 (bT) hp43.get2) .nil) fun b46 => ?_))))
  refine thn_n (WP.condT rfl (wR (oQ 3 {} [iI B] [1, 5, 31, 33] [pP g3, pP g18, .slice a40 (1 + 1) c41, iI B] (.cons (l1 3 2 (iI B) hp43.get3) .nil) fun b47 => ?_)))
  refine OPS.cons (opStep.call (some 34) [iI B] (by kernel_rfl) (itoa_c B (by omega) (by omega) _ (hl.lib.fram hp43.fr)) ?_)
  rintro _ w50 ⟨rfl, hf51⟩
  refine ⟨_, rfl, ?_⟩
  have hp52 := hp43.step hf51
  refine OPS.cons (opStep.buildSlice (E := 9) hp52 [.string (itoaT B)] (by kernel_rfl) (fun g55 w53 hp54 => ?_))
  refine OPS.cons (opStep.append1 [.string (itoaT B)] hp54 16 (by kernel_rfl) rfl rfl rfl (SlR.row (n := 1) hp54.get0 rfl).rd (List.all_eq_true.1 (by kernel_rfl)) (by decide) (by omega) (by omega) (fun a58 c59 w60 hp61 hn62 => ?_))
  rw [(show List.flatMap strc ([⟨#[99, 117, 116]⟩] ++ [itoaT A]) ++ [.string (itoaT B)] = List.flatMap strc (([⟨#[99, 117, 116]⟩] ++ [itoaT A]) ++ [itoaT B]) from (List.flatMap_append (xs := [⟨#[99, 117, 116]⟩] ++ [itoaT A]) (ys := [itoaT B])).symm)] at hp61
  refine oP 1 [1, 5, 6] [pP g3, pP g18, .slice a58 (1 + 1 + 1) c59] fun b63 => ?_
  refine OPS.nil (thn_n (WP.seq (WP.seq (wQ {} [bF] [1, 5, 6, 38] [pP g3, pP g18, .slice a58 (1 + 1 + 1) c59, bF] (.cons (l1 4 3 (bF) hp61.get3) .nil) fun b64 => ?_))))
  refine thn_n (WP.condF rfl (WP.skip (thn_n (WP.seq (WP.seq (wQ {} [bF] [1, 6, 46] [pP g3, .slice a58 (1 + 1 + 1) c59, bF] (.cons (l1 4 4 (bF) hp61.get3) .nil) fun b65 => ?_))))))
  refine thn_n (WP.condF rfl (WP.skip (thn_n (WP.seq (WP.seq (wQ {} [.slice L.a L.n L.c] [6, 55, 56, 57] [.slice a58 (1 + 1 + 1) c59, .slice L.a L.n L.c, iI ((L.n : Nat) : Int), iI 0] (.cons (l1 29 5 (.slice L.a L.n L.c) hp61.get4) .nil) fun b66 => ?_))))))
  refine thn_n (WP.block ?_)
  refine WP.loop (fun mz_ e67 w68 => ∃ (j : Nat) (xs : List ByteArray) (ao : Option Addr) (no : Nat) (co : Nat), mz_ = l.length - j ∧ (j ≤ l.length ∧ xs = [⟨#[99, 117, 116]⟩, itoaT A, itoaT B] ++ (l.take j).map itoaT) ∧ List.map e67 [6, 55, 56, 57] = [.slice ao no co, .slice L.a L.n L.c, iI ((L.n : Nat) : Int), iI (j : Int)] ∧ Hp w Non [Res.own 9 1 (.slice ao no co) no (List.flatMap strc xs), Res.row g55 [.string (itoaT B)] 9, Res.row g35 [.string (itoaT A)] 9, Res.row g18 qb12 56, Res.row g3 [iI 10, iI A, iI B, .string Ky, .slice V.a V.n V.c, .slice L.a L.n L.c] 31] w68) (l.length - (0)) ⟨0, ([⟨#[99, 117, 116]⟩] ++ [itoaT A]) ++ [itoaT B], a58, 1 + 1 + 1, c59, rfl, ⟨by omega, rfl⟩, by kernel_rfl, ((((((hp61.pull4).pull4).pull4).pull3).pull4).sub (.cons_cons _ (.cons_cons _ (.cons_cons _ (.cons_cons _ (.cons_cons _ (.slnil)))))))⟩ ?_
  rintro _ e67 w68 ⟨j, xs, ao, no, co, rfl, hI70, hE71, hp69⟩
  obtain ⟨b72, rfl⟩ := toMk hE71
  clear hE71
  obtain ⟨pa, pb⟩ := hI70
  have pe := own_flat (sz := 1) (fun _ => rfl) (by decide) hp69.get0
  have pl : xs.length = 3 + j := by rw [pb, List.length_append, List.length_map, List.length_take]; simp; omega
  have hlj : j < l.length → inI l[j]! := fun q => hi.2.2 _ (List.mem_of_getElem? (get_bang q))
  unfold inI at hlj
  refine WP.seq (wP [6, 55, 56, 57, 58] [.slice ao no co, .slice L.a L.n L.c, iI ((L.n : Nat) : Int), iI (j : Int), .bool (decide ((j : Int) < ((L.n : Nat) : Int)))] fun b73 => ?_)
  refine thn_n (WP.seq ?_)
  refine WP.test (p := (j : Int) < ((L.n : Nat) : Int)) rfl Bp.dec (fun h74 => ?_) (fun h74 => ?_)
  ·refine WP.skip (thn_n (WP.seq (WP.block (WP.seq ?_))))
   have hy76 : (l)[j]? = some l[j]! := get_bang (by first | (omega) | (simp only [List.length_append, List.length_cons, List.length_nil]; omega) | (simp only [List.length_take, List.length_append, List.length_cons, List.length_nil]; omega))
   refine wQ {} [iI (l[j]!)] [6, 8, 55, 56, 57] [.slice ao no co, iI (l[j]!), .slice L.a L.n L.c, iI ((L.n : Nat) : Int), iI (j : Int)] (.cons (show InB ((j : Int)) (L.n) from ⟨by omega, by omega⟩) (.cons ((hL.at hp69).some (by omega)) (.cons (Ld.add0 (Ld.el1 (P := Tryd.prog) (t := 3) (hL.at hp69).rd 1 (fun _ => rfl) hy76 (o := 0) (v := iI (l[j]!)) (by kernel_rfl))) .nil))) fun b77 => ?_
   refine thn_n (wR (oP 2 [55, 56, 57, 61, 62] [.slice L.a L.n L.c, iI ((L.n : Nat) : Int), iI (j : Int), .slice ao no co, iI (l[j]!)] fun b78 => ?_))
   refine OPS.cons (opStep.call (some 63) [iI (l[j]!)] (by kernel_rfl) (itoa_c (l[j]!) (by omega) (by omega) _ (hl.lib.fram hp69.fr)) ?_)
   rintro _ w81 ⟨rfl, hf82⟩
   refine ⟨_, rfl, ?_⟩
   have hp83 := hp69.step hf82
   refine OPS.cons (opStep.buildSlice (E := 9) hp83 [.string (itoaT (l[j]!))] (by kernel_rfl) (fun g86 w84 hp85 => ?_))
   refine OPS.cons (opStep.append1 [.string (itoaT (l[j]!))] hp85 16 (by kernel_rfl) rfl rfl rfl (SlR.row (n := 1) hp85.get0 rfl).rd (List.all_eq_true.1 (by kernel_rfl)) (by decide) (by omega) (by omega) (fun a89 c90 w91 hp92 hn93 => ?_))
   rw [(show List.flatMap strc xs ++ [.string (itoaT (l[j]!))] = List.flatMap strc (xs ++ [itoaT (l[j]!)]) from (List.flatMap_append (xs := xs) (ys := [itoaT (l[j]!)])).symm)] at hp92
   refine oP 1 [6, 55, 56, 57] [.slice a89 (no + 1) c90, .slice L.a L.n L.c, iI ((L.n : Nat) : Int), iI (j : Int)] fun b94 => ?_
   refine OPS.nil (blk_n (thn_n (wQ {} [] [6, 55, 56, 57] [.slice a89 (no + 1) c90, .slice L.a L.n L.c, iI ((L.n : Nat) : Int), iI ((j : Int) + 1)] (.cons (show Rng .i64 ((j : Int) + 1) from Rng.i64 (by omega)) .nil) fun b95 => ?_)))
   refine thn_n ?_
   exact ⟨l.length - (j + 1), (by omega), j + 1, xs ++ [itoaT (l[j]!)], a89, no + 1, c90, rfl, ⟨by omega, by rw [pb, List.take_succ_eq_append_getElem (by omega), List.map_append, ← List.append_assoc]; rw [getElem!_pos l j (by omega)]; rfl⟩, by kernel_rfl, (hp92.sub (.cons _ (.cons_cons _ (.cons_cons _ (.cons_cons _ (.cons_cons _ (.cons_cons _ (.slnil))))))))⟩
  ·refine WP.exit (thn_x (thn_x (blk_hit (thn_n (WP.seq ?_)))))
   obtain rfl : j = l.length := by omega
   have hwe : joinB xs = lineS ⟨10, A, B, Ky, valAt w V, l⟩ := by rw [pb, List.take_of_length_le (Nat.le_refl _)]; rfl
   refine wR (oP 1 [67] [.slice ao no co] fun b96 => ?_)
   have hp99 := hp69.pull0
   have hjl := own_flat (sz := 1) (fun _ => rfl) (by decide) hp99.get0
   refine OPS.cons (opStep.call (some 68) [.slice ao no co, .string ⟨#[32]⟩] (by kernel_rfl) (join_c (by omega) (by omega) (by rw [hwe]; exact hjz) hp99) ?_)
   rintro _ w100 ⟨rfl, hf101⟩
   refine ⟨_, rfl, ?_⟩
   have hp102 := hp99.step hf101
   refine oP 2 [2, 3] (qb6 xs) fun b103 => ?_
   refine OPS.nil (thn_n (WP.ret ?_))
   refine bodyQ.of _ rfl (qb6 xs) ⟨rfl, rfl, trivial⟩ ?_
   have hck : chkI ⟨10, A, B, Ky, valAt w V, l⟩ = 0 := by have h_ := h13; omega
   exact ⟨by simp only [pack]; rw [hwe, hck, lineV_ok (chk_ok hck)], hp102.fr⟩

theorem ln_k12 (A B : Int) (Ky : ByteArray) (V L : SlH) (l : List Int) (w : World) (hl : LibS w) (hx : StR w Tr ⟨12, A, B, Ky, V, L⟩ ⟨12, A, B, Ky, valAt w V, l⟩) (hs : smS ⟨12, A, B, Ky, valAt w V, l⟩) :
  Calls Tryd.prog 12 #[GStep.val (⟨12, A, B, Ky, V, L⟩ : GStep)] w (fun r_ w' => r_ = .returned (.tuple #[.string (lineV ⟨12, A, B, Ky, valAt w V, l⟩), .int .i64 (chkI ⟨12, A, B, Ky, valAt w V, l⟩)]) ∧ Fram Non w w') := by
 have hvb := hx.vb
 have hn := hx.ln
 have hL := hx.lr
 simp only at hvb hn hL
 have hi := hs.1
 have hA := hi.1
 have hB := hi.2.1
 unfold inI at hA hB
 have hsz1 := hs.2.1
 have hsz2 := hs.2.2.1
 have hsz3 := hs.2.2.2
 simp only at hA hB hsz1 hsz2 hsz3
 have hjz : (lineS ⟨12, A, B, Ky, valAt w V, l⟩).size ≤ 140737488355328 := by have h_ := line_size hs; simp only at h_; omega
 refine calls_of Tryd.func12 rfl 69 rfl (by simp) ?_
 have hp0 := Hp.init w
 have he0 : List.map (env0 [GStep.val (⟨12, A, B, Ky, V, L⟩ : GStep)]) [0] = [GStep.val (⟨12, A, B, Ky, V, L⟩ : GStep)] := by kernel_rfl
 obtain ⟨b0, he0⟩ := toMk he0
 rw [he0]
 clear he0
 refine WP.seq (wR ?_)
 refine OPS.cons (opStep.box hp0 [iI 12, iI A, iI B, .string Ky, .slice V.a V.n V.c, .slice L.a L.n L.c] (by kernel_rfl) (fun g3 w1 hp2 => ?_))
 refine oP 2 [1] [pP g3] fun b4 => ?_
 refine OPS.nil (thn_n (WP.seq (WP.seq (wR (oQ 1 {} [GStep.val (⟨12, A, B, Ky, V, L⟩ : GStep)] [1, 9] [pP g3, GStep.val (⟨12, A, B, Ky, V, L⟩ : GStep)] (.cons (lN 31 0 [iI 12, iI A, iI B, .string Ky, .slice V.a V.n V.c, .slice L.a L.n L.c] hp2.get0) .nil) fun b5 => ?_)))))
 refine OPS.cons (opStep.call (some 10) [GStep.val (⟨12, A, B, Ky, V, L⟩ : GStep)] (by kernel_rfl) (sc_Check _ (⟨12, A, B, Ky, valAt w V, l⟩ : StepP) _ (hl.fram hp2.fr) (hx.fram hp2.fr)) ?_)
 rintro _ w8 ⟨rfl, hf9⟩
 refine ⟨_, rfl, ?_⟩
 have hp10 := hp2.step hf9
 refine oP 1 [1, 4] [pP g3, iI (chkI (⟨12, A, B, Ky, valAt w V, l⟩ : StepP))] fun b11 => ?_
 refine OPS.nil (thn_n (WP.seq (wP [1, 4, 12] [pP g3, iI (chkI (⟨12, A, B, Ky, valAt w V, l⟩ : StepP)), .bool (decide (¬ ((chkI (⟨12, A, B, Ky, valAt w V, l⟩ : StepP)) = 0)))] fun b12 => ?_)))
 refine thn_n ?_
 refine WP.test (p := ¬ ((chkI (⟨12, A, B, Ky, valAt w V, l⟩ : StepP)) = 0)) rfl Bp.dec (fun h13 => ?_) (fun h13 => ?_)
 ·refine WP.seq (wP [2, 3] [.string ⟨#[]⟩, iI (chkI (⟨12, A, B, Ky, valAt w V, l⟩ : StepP))] fun b14 => ?_)
  refine thn_n (WP.ret (thn_r ?_))
  refine bodyQ.of _ rfl [.string ⟨#[]⟩, iI (chkI (⟨12, A, B, Ky, valAt w V, l⟩ : StepP))] ⟨rfl, rfl, trivial⟩ ?_
  exact ⟨by simp only [pack]; rw [lineV_no h13], hp10.fr⟩
 ·replace h13 := Classical.not_not.1 h13
  refine WP.skip (thn_n (WP.seq (wR (oQ 4 {} [iI 12, qb13] [1, 17] [pP g3, qb13] (.cons (l1 3 0 (iI 12) hp10.get0) (.cons (show InB (12) (17) from ⟨by omega, by omega⟩) (.cons (lN 56 84 qb14 (row_at hl.tab hp10.fr)) .nil))) fun b15 => ?_))))
  refine OPS.cons (opStep.alloc hp10 qb2 (by kernel_rfl) (fun g18 w16 hp17 => ?_))
  refine OPS.cons (opStep.store0 hp17 rfl qb14 qb14 (by kernel_rfl) (fun w19 hp20 => ?_))
  refine OPS.nil (thn_n (WP.seq (wR (oQ 2 {} [.string ⟨#[99, 114, 97, 115, 104]⟩] [1, 5, 19] [pP g3, pP g18, .string ⟨#[99, 114, 97, 115, 104]⟩] (.cons (l1 9 0 (.string ⟨#[99, 114, 97, 115, 104]⟩) hp20.get0) .nil) fun b21 => ?_))))
  refine OPS.cons (opStep.buildSlice (E := 9) hp20 [.string ⟨#[99, 114, 97, 115, 104]⟩] (by kernel_rfl) (fun g24 w22 hp23 => ?_))
  refine oP 1 [1, 5, 6] (qb3 g3 g18 g24) fun b25 => ?_
  refine OPS.nil (thn_n (WP.seq (WP.seq (wQ {} [bT] [1, 5, 6, 22] (qb4 g3 g18 g24) (.cons (l1 4 1 (bT) hp23.get1) .nil) fun b26 => ?_))))
  refine thn_n (WP.condT rfl (wR (oQ 3 {} [iI A] [1, 5, 23, 25] (qb5 g3 g18 g24 A) (.cons (l1 3 1 (iI A) hp23.get2) .nil) fun b27 => ?_)))
  refine OPS.cons (opStep.call (some 26) [iI A] (by kernel_rfl) (itoa_c A (by omega) (by omega) _ (hl.lib.fram hp23.fr)) ?_)
  rintro _ w30 ⟨rfl, hf31⟩
  refine ⟨_, rfl, ?_⟩
  have hp32 := hp23.step hf31
  refine OPS.cons (opStep.buildSlice (E := 9) hp32 [.string (itoaT A)] (by kernel_rfl) (fun g35 w33 hp34 => ?_))
  have hp38 := hp34.pull1
  have hp39 := (show Hp w Non [Res.own 9 1 (.slice (some ⟨g24, 0, none⟩) 1 1) 1 (List.flatMap strc [⟨#[99, 114, 97, 115, 104]⟩]), Res.row g35 [.string (itoaT A)] 9, Res.row g18 qb14 56, Res.row g3 [iI 12, iI A, iI B, .string Ky, .slice V.a V.n V.c, .slice L.a L.n L.c] 31] w33 from hp38.rowOwnN (sz := 1) (n := 1) rfl (by decide))
  refine OPS.cons (opStep.append0 [.string (itoaT A)] hp39 16 (by kernel_rfl) rfl rfl rfl (SlR.row (n := 1) hp39.get1 rfl).rd (List.all_eq_true.1 (by kernel_rfl)) (by decide) (by omega) (by omega) (fun a40 c41 w42 hp43 hn44 => ?_))
  rw [(show List.flatMap strc [⟨#[99, 114, 97, 115, 104]⟩] ++ [.string (itoaT A)] = List.flatMap strc ([⟨#[99, 114, 97, 115, 104]⟩] ++ [itoaT A]) from (List.flatMap_append (xs := [⟨#[99, 114, 97, 115, 104]⟩]) (ys := [itoaT A])).symm)] at hp43
  refine oP 1 [1, 5, 6] [pP g3, pP g18, .slice a40 (1 + 1) c41] fun b45 => ?_
  refine OPS.nil (thn_n (WP.seq (WP.seq (wQ {} [bF] [1, 5, 6, 30] [pP g3, pP g18, .slice a40 (1 + 1) c41, bF] (.cons (l1 4 2 (bF) hp43.get2) .nil) fun b46 => ?_))))
  refine thn_n (WP.condF rfl (WP.skip (thn_n (WP.seq (WP.seq (wQ {} [bF] [1, 5, 6, 38] [pP g3, pP g18, .slice a40 (1 + 1) c41, bF] (.cons (l1 4 3 (bF) hp43.get2) .nil) fun b47 => ?_))))))
  refine thn_n (WP.condF rfl (WP.skip (thn_n (WP.seq (WP.seq (wQ {} [bF] [1, 6, 46] [pP g3, .slice a40 (1 + 1) c41, bF] (.cons (l1 4 4 (bF) hp43.get2) .nil) fun b48 => ?_))))))
  refine thn_n (WP.condF rfl (WP.skip (thn_n (WP.seq (WP.seq (wQ {} [.slice L.a L.n L.c] [6, 55, 56, 57] [.slice a40 (1 + 1) c41, .slice L.a L.n L.c, iI ((L.n : Nat) : Int), iI 0] (.cons (l1 29 5 (.slice L.a L.n L.c) hp43.get3) .nil) fun b49 => ?_))))))
  refine thn_n (WP.block ?_)
  refine WP.loop (fun mz_ e50 w51 => ∃ (j : Nat) (xs : List ByteArray) (ao : Option Addr) (no : Nat) (co : Nat), mz_ = l.length - j ∧ (j ≤ l.length ∧ xs = [⟨#[99, 114, 97, 115, 104]⟩, itoaT A] ++ (l.take j).map itoaT) ∧ List.map e50 [6, 55, 56, 57] = [.slice ao no co, .slice L.a L.n L.c, iI ((L.n : Nat) : Int), iI (j : Int)] ∧ Hp w Non [Res.own 9 1 (.slice ao no co) no (List.flatMap strc xs), Res.row g35 [.string (itoaT A)] 9, Res.row g18 qb14 56, Res.row g3 [iI 12, iI A, iI B, .string Ky, .slice V.a V.n V.c, .slice L.a L.n L.c] 31] w51) (l.length - (0)) ⟨0, [⟨#[99, 114, 97, 115, 104]⟩] ++ [itoaT A], a40, 1 + 1, c41, rfl, ⟨by omega, rfl⟩, by kernel_rfl, hp43⟩ ?_
  rintro _ e50 w51 ⟨j, xs, ao, no, co, rfl, hI53, hE54, hp52⟩
  obtain ⟨b55, rfl⟩ := toMk hE54
  clear hE54
  obtain ⟨pa, pb⟩ := hI53
  have pe := own_flat (sz := 1) (fun _ => rfl) (by decide) hp52.get0
  have pl : xs.length = 2 + j := by rw [pb, List.length_append, List.length_map, List.length_take]; simp; omega
  have hlj : j < l.length → inI l[j]! := fun q => hi.2.2 _ (List.mem_of_getElem? (get_bang q))
  unfold inI at hlj
  refine WP.seq (wP [6, 55, 56, 57, 58] [.slice ao no co, .slice L.a L.n L.c, iI ((L.n : Nat) : Int), iI (j : Int), .bool (decide ((j : Int) < ((L.n : Nat) : Int)))] fun b56 => ?_)
  refine thn_n (WP.seq ?_)
  refine WP.test (p := (j : Int) < ((L.n : Nat) : Int)) rfl Bp.dec (fun h57 => ?_) (fun h57 => ?_)
  ·refine WP.skip (thn_n (WP.seq (WP.block (WP.seq ?_))))
   have hy59 : (l)[j]? = some l[j]! := get_bang (by first | (omega) | (simp only [List.length_append, List.length_cons, List.length_nil]; omega) | (simp only [List.length_take, List.length_append, List.length_cons, List.length_nil]; omega))
   refine wQ {} [iI (l[j]!)] [6, 8, 55, 56, 57] [.slice ao no co, iI (l[j]!), .slice L.a L.n L.c, iI ((L.n : Nat) : Int), iI (j : Int)] (.cons (show InB ((j : Int)) (L.n) from ⟨by omega, by omega⟩) (.cons ((hL.at hp52).some (by omega)) (.cons (Ld.add0 (Ld.el1 (P := Tryd.prog) (t := 3) (hL.at hp52).rd 1 (fun _ => rfl) hy59 (o := 0) (v := iI (l[j]!)) (by kernel_rfl))) .nil))) fun b60 => ?_
   refine thn_n (wR (oP 2 [55, 56, 57, 61, 62] [.slice L.a L.n L.c, iI ((L.n : Nat) : Int), iI (j : Int), .slice ao no co, iI (l[j]!)] fun b61 => ?_))
   refine OPS.cons (opStep.call (some 63) [iI (l[j]!)] (by kernel_rfl) (itoa_c (l[j]!) (by omega) (by omega) _ (hl.lib.fram hp52.fr)) ?_)
   rintro _ w64 ⟨rfl, hf65⟩
   refine ⟨_, rfl, ?_⟩
   have hp66 := hp52.step hf65
   refine OPS.cons (opStep.buildSlice (E := 9) hp66 [.string (itoaT (l[j]!))] (by kernel_rfl) (fun g69 w67 hp68 => ?_))
   refine OPS.cons (opStep.append1 [.string (itoaT (l[j]!))] hp68 16 (by kernel_rfl) rfl rfl rfl (SlR.row (n := 1) hp68.get0 rfl).rd (List.all_eq_true.1 (by kernel_rfl)) (by decide) (by omega) (by omega) (fun a72 c73 w74 hp75 hn76 => ?_))
   rw [(show List.flatMap strc xs ++ [.string (itoaT (l[j]!))] = List.flatMap strc (xs ++ [itoaT (l[j]!)]) from (List.flatMap_append (xs := xs) (ys := [itoaT (l[j]!)])).symm)] at hp75
   refine oP 1 [6, 55, 56, 57] [.slice a72 (no + 1) c73, .slice L.a L.n L.c, iI ((L.n : Nat) : Int), iI (j : Int)] fun b77 => ?_
   refine OPS.nil (blk_n (thn_n (wQ {} [] [6, 55, 56, 57] [.slice a72 (no + 1) c73, .slice L.a L.n L.c, iI ((L.n : Nat) : Int), iI ((j : Int) + 1)] (.cons (show Rng .i64 ((j : Int) + 1) from Rng.i64 (by omega)) .nil) fun b78 => ?_)))
   refine thn_n ?_
   exact ⟨l.length - (j + 1), (by omega), j + 1, xs ++ [itoaT (l[j]!)], a72, no + 1, c73, rfl, ⟨by omega, by rw [pb, List.take_succ_eq_append_getElem (by omega), List.map_append, ← List.append_assoc]; rw [getElem!_pos l j (by omega)]; rfl⟩, by kernel_rfl, (hp75.sub (.cons _ (.cons_cons _ (.cons_cons _ (.cons_cons _ (.cons_cons _ (.slnil)))))))⟩
  ·refine WP.exit (thn_x (thn_x (blk_hit (thn_n (WP.seq ?_)))))
   obtain rfl : j = l.length := by omega
   have hwe : joinB xs = lineS ⟨12, A, B, Ky, valAt w V, l⟩ := by rw [pb, List.take_of_length_le (Nat.le_refl _)]; rfl
   refine wR (oP 1 [67] [.slice ao no co] fun b79 => ?_)
   have hp82 := hp52.pull0
   have hjl := own_flat (sz := 1) (fun _ => rfl) (by decide) hp82.get0
   refine OPS.cons (opStep.call (some 68) [.slice ao no co, .string ⟨#[32]⟩] (by kernel_rfl) (join_c (by omega) (by omega) (by rw [hwe]; exact hjz) hp82) ?_)
   rintro _ w83 ⟨rfl, hf84⟩
   refine ⟨_, rfl, ?_⟩
   have hp85 := hp82.step hf84
   refine oP 2 [2, 3] (qb6 xs) fun b86 => ?_
   refine OPS.nil (thn_n (WP.ret ?_))
   refine bodyQ.of _ rfl (qb6 xs) ⟨rfl, rfl, trivial⟩ ?_
   have hck : chkI ⟨12, A, B, Ky, valAt w V, l⟩ = 0 := by have h_ := h13; omega
   exact ⟨by simp only [pack]; rw [hwe, hck, lineV_ok (chk_ok hck)], hp85.fr⟩

theorem ln_k14 (A B : Int) (Ky : ByteArray) (V L : SlH) (l : List Int) (w : World) (hl : LibS w) (hx : StR w Tr ⟨14, A, B, Ky, V, L⟩ ⟨14, A, B, Ky, valAt w V, l⟩) (hs : smS ⟨14, A, B, Ky, valAt w V, l⟩) :
  Calls Tryd.prog 12 #[GStep.val (⟨14, A, B, Ky, V, L⟩ : GStep)] w (fun r_ w' => r_ = .returned (.tuple #[.string (lineV ⟨14, A, B, Ky, valAt w V, l⟩), .int .i64 (chkI ⟨14, A, B, Ky, valAt w V, l⟩)]) ∧ Fram Non w w') := by
 have hvb := hx.vb
 have hn := hx.ln
 have hL := hx.lr
 simp only at hvb hn hL
 have hi := hs.1
 have hA := hi.1
 have hB := hi.2.1
 unfold inI at hA hB
 have hsz1 := hs.2.1
 have hsz2 := hs.2.2.1
 have hsz3 := hs.2.2.2
 simp only at hA hB hsz1 hsz2 hsz3
 have hjz : (lineS ⟨14, A, B, Ky, valAt w V, l⟩).size ≤ 140737488355328 := by have h_ := line_size hs; simp only at h_; omega
 refine calls_of Tryd.func12 rfl 69 rfl (by simp) ?_
 have hp0 := Hp.init w
 have he0 : List.map (env0 [GStep.val (⟨14, A, B, Ky, V, L⟩ : GStep)]) [0] = [GStep.val (⟨14, A, B, Ky, V, L⟩ : GStep)] := by kernel_rfl
 obtain ⟨b0, he0⟩ := toMk he0
 rw [he0]
 clear he0
 refine WP.seq (wR ?_)
 refine OPS.cons (opStep.box hp0 [iI 14, iI A, iI B, .string Ky, .slice V.a V.n V.c, .slice L.a L.n L.c] (by kernel_rfl) (fun g3 w1 hp2 => ?_))
 refine oP 2 [1] [pP g3] fun b4 => ?_
 refine OPS.nil (thn_n (WP.seq (WP.seq (wR (oQ 1 {} [GStep.val (⟨14, A, B, Ky, V, L⟩ : GStep)] [1, 9] [pP g3, GStep.val (⟨14, A, B, Ky, V, L⟩ : GStep)] (.cons (lN 31 0 [iI 14, iI A, iI B, .string Ky, .slice V.a V.n V.c, .slice L.a L.n L.c] hp2.get0) .nil) fun b5 => ?_)))))
 refine OPS.cons (opStep.call (some 10) [GStep.val (⟨14, A, B, Ky, V, L⟩ : GStep)] (by kernel_rfl) (sc_Check _ (⟨14, A, B, Ky, valAt w V, l⟩ : StepP) _ (hl.fram hp2.fr) (hx.fram hp2.fr)) ?_)
 rintro _ w8 ⟨rfl, hf9⟩
 refine ⟨_, rfl, ?_⟩
 have hp10 := hp2.step hf9
 refine oP 1 [1, 4] [pP g3, iI (chkI (⟨14, A, B, Ky, valAt w V, l⟩ : StepP))] fun b11 => ?_
 refine OPS.nil (thn_n (WP.seq (wP [1, 4, 12] [pP g3, iI (chkI (⟨14, A, B, Ky, valAt w V, l⟩ : StepP)), .bool (decide (¬ ((chkI (⟨14, A, B, Ky, valAt w V, l⟩ : StepP)) = 0)))] fun b12 => ?_)))
 refine thn_n ?_
 refine WP.test (p := ¬ ((chkI (⟨14, A, B, Ky, valAt w V, l⟩ : StepP)) = 0)) rfl Bp.dec (fun h13 => ?_) (fun h13 => ?_)
 ·refine WP.seq (wP [2, 3] [.string ⟨#[]⟩, iI (chkI (⟨14, A, B, Ky, valAt w V, l⟩ : StepP))] fun b14 => ?_)
  refine thn_n (WP.ret (thn_r ?_))
  refine bodyQ.of _ rfl [.string ⟨#[]⟩, iI (chkI (⟨14, A, B, Ky, valAt w V, l⟩ : StepP))] ⟨rfl, rfl, trivial⟩ ?_
  exact ⟨by simp only [pack]; rw [lineV_no h13], hp10.fr⟩
 ·replace h13 := Classical.not_not.1 h13
  refine WP.skip (thn_n (WP.seq (wR (oQ 4 {} [iI 14, qb15] [1, 17] [pP g3, qb15] (.cons (l1 3 0 (iI 14) hp10.get0) (.cons (show InB (14) (17) from ⟨by omega, by omega⟩) (.cons (lN 56 98 qb16 (row_at hl.tab hp10.fr)) .nil))) fun b15 => ?_))))
  refine OPS.cons (opStep.alloc hp10 qb2 (by kernel_rfl) (fun g18 w16 hp17 => ?_))
  refine OPS.cons (opStep.store0 hp17 rfl qb16 qb16 (by kernel_rfl) (fun w19 hp20 => ?_))
  refine OPS.nil (thn_n (WP.seq (wR (oQ 2 {} [.string ⟨#[100, 105, 101]⟩] [1, 5, 19] [pP g3, pP g18, .string ⟨#[100, 105, 101]⟩] (.cons (l1 9 0 (.string ⟨#[100, 105, 101]⟩) hp20.get0) .nil) fun b21 => ?_))))
  refine OPS.cons (opStep.buildSlice (E := 9) hp20 [.string ⟨#[100, 105, 101]⟩] (by kernel_rfl) (fun g24 w22 hp23 => ?_))
  refine oP 1 [1, 5, 6] (qb3 g3 g18 g24) fun b25 => ?_
  refine OPS.nil (thn_n (WP.seq (WP.seq (wQ {} [bT] [1, 5, 6, 22] (qb4 g3 g18 g24) (.cons (l1 4 1 (bT) hp23.get1) .nil) fun b26 => ?_))))
  refine thn_n (WP.condT rfl (wR (oQ 3 {} [iI A] [1, 5, 23, 25] (qb5 g3 g18 g24 A) (.cons (l1 3 1 (iI A) hp23.get2) .nil) fun b27 => ?_)))
  refine OPS.cons (opStep.call (some 26) [iI A] (by kernel_rfl) (itoa_c A (by omega) (by omega) _ (hl.lib.fram hp23.fr)) ?_)
  rintro _ w30 ⟨rfl, hf31⟩
  refine ⟨_, rfl, ?_⟩
  have hp32 := hp23.step hf31
  refine OPS.cons (opStep.buildSlice (E := 9) hp32 [.string (itoaT A)] (by kernel_rfl) (fun g35 w33 hp34 => ?_))
  have hp38 := hp34.pull1
  have hp39 := (show Hp w Non [Res.own 9 1 (.slice (some ⟨g24, 0, none⟩) 1 1) 1 (List.flatMap strc [⟨#[100, 105, 101]⟩]), Res.row g35 [.string (itoaT A)] 9, Res.row g18 qb16 56, Res.row g3 [iI 14, iI A, iI B, .string Ky, .slice V.a V.n V.c, .slice L.a L.n L.c] 31] w33 from hp38.rowOwnN (sz := 1) (n := 1) rfl (by decide))
  refine OPS.cons (opStep.append0 [.string (itoaT A)] hp39 16 (by kernel_rfl) rfl rfl rfl (SlR.row (n := 1) hp39.get1 rfl).rd (List.all_eq_true.1 (by kernel_rfl)) (by decide) (by omega) (by omega) (fun a40 c41 w42 hp43 hn44 => ?_))
  rw [(show List.flatMap strc [⟨#[100, 105, 101]⟩] ++ [.string (itoaT A)] = List.flatMap strc ([⟨#[100, 105, 101]⟩] ++ [itoaT A]) from (List.flatMap_append (xs := [⟨#[100, 105, 101]⟩]) (ys := [itoaT A])).symm)] at hp43
  refine oP 1 [1, 5, 6] [pP g3, pP g18, .slice a40 (1 + 1) c41] fun b45 => ?_
  refine OPS.nil (thn_n (WP.seq (WP.seq (wQ {} [bT] [1, 5, 6, 30] [pP g3, pP g18, .slice a40 (1 + 1) c41, bT] (.cons (l1 4 2 (bT) hp43.get2) .nil) fun b46 => ?_))))
  refine thn_n (WP.condT rfl (wR (oQ 3 {} [iI B] [1, 5, 31, 33] [pP g3, pP g18, .slice a40 (1 + 1) c41, iI B] (.cons (l1 3 2 (iI B) hp43.get3) .nil) fun b47 => ?_)))
  refine OPS.cons (opStep.call (some 34) [iI B] (by kernel_rfl) (itoa_c B (by omega) (by omega) _ (hl.lib.fram hp43.fr)) ?_)
  rintro _ w50 ⟨rfl, hf51⟩
  refine ⟨_, rfl, ?_⟩
  have hp52 := hp43.step hf51
  refine OPS.cons (opStep.buildSlice (E := 9) hp52 [.string (itoaT B)] (by kernel_rfl) (fun g55 w53 hp54 => ?_))
  refine OPS.cons (opStep.append1 [.string (itoaT B)] hp54 16 (by kernel_rfl) rfl rfl rfl (SlR.row (n := 1) hp54.get0 rfl).rd (List.all_eq_true.1 (by kernel_rfl)) (by decide) (by omega) (by omega) (fun a58 c59 w60 hp61 hn62 => ?_))
  rw [(show List.flatMap strc ([⟨#[100, 105, 101]⟩] ++ [itoaT A]) ++ [.string (itoaT B)] = List.flatMap strc (([⟨#[100, 105, 101]⟩] ++ [itoaT A]) ++ [itoaT B]) from (List.flatMap_append (xs := [⟨#[100, 105, 101]⟩] ++ [itoaT A]) (ys := [itoaT B])).symm)] at hp61
  refine oP 1 [1, 5, 6] [pP g3, pP g18, .slice a58 (1 + 1 + 1) c59] fun b63 => ?_
  refine OPS.nil (thn_n (WP.seq (WP.seq (wQ {} [bF] [1, 5, 6, 38] [pP g3, pP g18, .slice a58 (1 + 1 + 1) c59, bF] (.cons (l1 4 3 (bF) hp61.get3) .nil) fun b64 => ?_))))
  refine thn_n (WP.condF rfl (WP.skip (thn_n (WP.seq (WP.seq (wQ {} [bF] [1, 6, 46] [pP g3, .slice a58 (1 + 1 + 1) c59, bF] (.cons (l1 4 4 (bF) hp61.get3) .nil) fun b65 => ?_))))))
  refine thn_n (WP.condF rfl (WP.skip (thn_n (WP.seq (WP.seq (wQ {} [.slice L.a L.n L.c] [6, 55, 56, 57] [.slice a58 (1 + 1 + 1) c59, .slice L.a L.n L.c, iI ((L.n : Nat) : Int), iI 0] (.cons (l1 29 5 (.slice L.a L.n L.c) hp61.get4) .nil) fun b66 => ?_))))))
  refine thn_n (WP.block ?_)
  refine WP.loop (fun mz_ e67 w68 => ∃ (j : Nat) (xs : List ByteArray) (ao : Option Addr) (no : Nat) (co : Nat), mz_ = l.length - j ∧ (j ≤ l.length ∧ xs = [⟨#[100, 105, 101]⟩, itoaT A, itoaT B] ++ (l.take j).map itoaT) ∧ List.map e67 [6, 55, 56, 57] = [.slice ao no co, .slice L.a L.n L.c, iI ((L.n : Nat) : Int), iI (j : Int)] ∧ Hp w Non [Res.own 9 1 (.slice ao no co) no (List.flatMap strc xs), Res.row g55 [.string (itoaT B)] 9, Res.row g35 [.string (itoaT A)] 9, Res.row g18 qb16 56, Res.row g3 [iI 14, iI A, iI B, .string Ky, .slice V.a V.n V.c, .slice L.a L.n L.c] 31] w68) (l.length - (0)) ⟨0, ([⟨#[100, 105, 101]⟩] ++ [itoaT A]) ++ [itoaT B], a58, 1 + 1 + 1, c59, rfl, ⟨by omega, rfl⟩, by kernel_rfl, ((((((hp61.pull4).pull4).pull4).pull3).pull4).sub (.cons_cons _ (.cons_cons _ (.cons_cons _ (.cons_cons _ (.cons_cons _ (.slnil)))))))⟩ ?_
  rintro _ e67 w68 ⟨j, xs, ao, no, co, rfl, hI70, hE71, hp69⟩
  obtain ⟨b72, rfl⟩ := toMk hE71
  clear hE71
  obtain ⟨pa, pb⟩ := hI70
  have pe := own_flat (sz := 1) (fun _ => rfl) (by decide) hp69.get0
  have pl : xs.length = 3 + j := by rw [pb, List.length_append, List.length_map, List.length_take]; simp; omega
  have hlj : j < l.length → inI l[j]! := fun q => hi.2.2 _ (List.mem_of_getElem? (get_bang q))
  unfold inI at hlj
  refine WP.seq (wP [6, 55, 56, 57, 58] [.slice ao no co, .slice L.a L.n L.c, iI ((L.n : Nat) : Int), iI (j : Int), .bool (decide ((j : Int) < ((L.n : Nat) : Int)))] fun b73 => ?_)
  refine thn_n (WP.seq ?_)
  refine WP.test (p := (j : Int) < ((L.n : Nat) : Int)) rfl Bp.dec (fun h74 => ?_) (fun h74 => ?_)
  ·refine WP.skip (thn_n (WP.seq (WP.block (WP.seq ?_))))
   have hy76 : (l)[j]? = some l[j]! := get_bang (by first | (omega) | (simp only [List.length_append, List.length_cons, List.length_nil]; omega) | (simp only [List.length_take, List.length_append, List.length_cons, List.length_nil]; omega))
   refine wQ {} [iI (l[j]!)] [6, 8, 55, 56, 57] [.slice ao no co, iI (l[j]!), .slice L.a L.n L.c, iI ((L.n : Nat) : Int), iI (j : Int)] (.cons (show InB ((j : Int)) (L.n) from ⟨by omega, by omega⟩) (.cons ((hL.at hp69).some (by omega)) (.cons (Ld.add0 (Ld.el1 (P := Tryd.prog) (t := 3) (hL.at hp69).rd 1 (fun _ => rfl) hy76 (o := 0) (v := iI (l[j]!)) (by kernel_rfl))) .nil))) fun b77 => ?_
   refine thn_n (wR (oP 2 [55, 56, 57, 61, 62] [.slice L.a L.n L.c, iI ((L.n : Nat) : Int), iI (j : Int), .slice ao no co, iI (l[j]!)] fun b78 => ?_))
   refine OPS.cons (opStep.call (some 63) [iI (l[j]!)] (by kernel_rfl) (itoa_c (l[j]!) (by omega) (by omega) _ (hl.lib.fram hp69.fr)) ?_)
   rintro _ w81 ⟨rfl, hf82⟩
   refine ⟨_, rfl, ?_⟩
   have hp83 := hp69.step hf82
   refine OPS.cons (opStep.buildSlice (E := 9) hp83 [.string (itoaT (l[j]!))] (by kernel_rfl) (fun g86 w84 hp85 => ?_))
   refine OPS.cons (opStep.append1 [.string (itoaT (l[j]!))] hp85 16 (by kernel_rfl) rfl rfl rfl (SlR.row (n := 1) hp85.get0 rfl).rd (List.all_eq_true.1 (by kernel_rfl)) (by decide) (by omega) (by omega) (fun a89 c90 w91 hp92 hn93 => ?_))
   rw [(show List.flatMap strc xs ++ [.string (itoaT (l[j]!))] = List.flatMap strc (xs ++ [itoaT (l[j]!)]) from (List.flatMap_append (xs := xs) (ys := [itoaT (l[j]!)])).symm)] at hp92
   refine oP 1 [6, 55, 56, 57] [.slice a89 (no + 1) c90, .slice L.a L.n L.c, iI ((L.n : Nat) : Int), iI (j : Int)] fun b94 => ?_
   refine OPS.nil (blk_n (thn_n (wQ {} [] [6, 55, 56, 57] [.slice a89 (no + 1) c90, .slice L.a L.n L.c, iI ((L.n : Nat) : Int), iI ((j : Int) + 1)] (.cons (show Rng .i64 ((j : Int) + 1) from Rng.i64 (by omega)) .nil) fun b95 => ?_)))
   refine thn_n ?_
   exact ⟨l.length - (j + 1), (by omega), j + 1, xs ++ [itoaT (l[j]!)], a89, no + 1, c90, rfl, ⟨by omega, by rw [pb, List.take_succ_eq_append_getElem (by omega), List.map_append, ← List.append_assoc]; rw [getElem!_pos l j (by omega)]; rfl⟩, by kernel_rfl, (hp92.sub (.cons _ (.cons_cons _ (.cons_cons _ (.cons_cons _ (.cons_cons _ (.cons_cons _ (.slnil))))))))⟩
  ·refine WP.exit (thn_x (thn_x (blk_hit (thn_n (WP.seq ?_)))))
   obtain rfl : j = l.length := by omega
   have hwe : joinB xs = lineS ⟨14, A, B, Ky, valAt w V, l⟩ := by rw [pb, List.take_of_length_le (Nat.le_refl _)]; rfl
   refine wR (oP 1 [67] [.slice ao no co] fun b96 => ?_)
   have hp99 := hp69.pull0
   have hjl := own_flat (sz := 1) (fun _ => rfl) (by decide) hp99.get0
   refine OPS.cons (opStep.call (some 68) [.slice ao no co, .string ⟨#[32]⟩] (by kernel_rfl) (join_c (by omega) (by omega) (by rw [hwe]; exact hjz) hp99) ?_)
   rintro _ w100 ⟨rfl, hf101⟩
   refine ⟨_, rfl, ?_⟩
   have hp102 := hp99.step hf101
   refine oP 2 [2, 3] (qb6 xs) fun b103 => ?_
   refine OPS.nil (thn_n (WP.ret ?_))
   refine bodyQ.of _ rfl (qb6 xs) ⟨rfl, rfl, trivial⟩ ?_
   have hck : chkI ⟨14, A, B, Ky, valAt w V, l⟩ = 0 := by have h_ := h13; omega
   exact ⟨by simp only [pack]; rw [hwe, hck, lineV_ok (chk_ok hck)], hp102.fr⟩

theorem ln_k16 (A B : Int) (Ky : ByteArray) (V L : SlH) (l : List Int) (w : World) (hl : LibS w) (hx : StR w Tr ⟨16, A, B, Ky, V, L⟩ ⟨16, A, B, Ky, valAt w V, l⟩) (hs : smS ⟨16, A, B, Ky, valAt w V, l⟩) :
  Calls Tryd.prog 12 #[GStep.val (⟨16, A, B, Ky, V, L⟩ : GStep)] w (fun r_ w' => r_ = .returned (.tuple #[.string (lineV ⟨16, A, B, Ky, valAt w V, l⟩), .int .i64 (chkI ⟨16, A, B, Ky, valAt w V, l⟩)]) ∧ Fram Non w w') := by
 have hvb := hx.vb
 have hn := hx.ln
 have hL := hx.lr
 simp only at hvb hn hL
 have hi := hs.1
 have hA := hi.1
 have hB := hi.2.1
 unfold inI at hA hB
 have hsz1 := hs.2.1
 have hsz2 := hs.2.2.1
 have hsz3 := hs.2.2.2
 simp only at hA hB hsz1 hsz2 hsz3
 have hjz : (lineS ⟨16, A, B, Ky, valAt w V, l⟩).size ≤ 140737488355328 := by have h_ := line_size hs; simp only at h_; omega
 refine calls_of Tryd.func12 rfl 69 rfl (by simp) ?_
 have hp0 := Hp.init w
 have he0 : List.map (env0 [GStep.val (⟨16, A, B, Ky, V, L⟩ : GStep)]) [0] = [GStep.val (⟨16, A, B, Ky, V, L⟩ : GStep)] := by kernel_rfl
 obtain ⟨b0, he0⟩ := toMk he0
 rw [he0]
 clear he0
 refine WP.seq (wR ?_)
 refine OPS.cons (opStep.box hp0 [iI 16, iI A, iI B, .string Ky, .slice V.a V.n V.c, .slice L.a L.n L.c] (by kernel_rfl) (fun g3 w1 hp2 => ?_))
 refine oP 2 [1] [pP g3] fun b4 => ?_
 refine OPS.nil (thn_n (WP.seq (WP.seq (wR (oQ 1 {} [GStep.val (⟨16, A, B, Ky, V, L⟩ : GStep)] [1, 9] [pP g3, GStep.val (⟨16, A, B, Ky, V, L⟩ : GStep)] (.cons (lN 31 0 [iI 16, iI A, iI B, .string Ky, .slice V.a V.n V.c, .slice L.a L.n L.c] hp2.get0) .nil) fun b5 => ?_)))))
 refine OPS.cons (opStep.call (some 10) [GStep.val (⟨16, A, B, Ky, V, L⟩ : GStep)] (by kernel_rfl) (sc_Check _ (⟨16, A, B, Ky, valAt w V, l⟩ : StepP) _ (hl.fram hp2.fr) (hx.fram hp2.fr)) ?_)
 rintro _ w8 ⟨rfl, hf9⟩
 refine ⟨_, rfl, ?_⟩
 have hp10 := hp2.step hf9
 refine oP 1 [1, 4] [pP g3, iI (chkI (⟨16, A, B, Ky, valAt w V, l⟩ : StepP))] fun b11 => ?_
 refine OPS.nil (thn_n (WP.seq (wP [1, 4, 12] [pP g3, iI (chkI (⟨16, A, B, Ky, valAt w V, l⟩ : StepP)), .bool (decide (¬ ((chkI (⟨16, A, B, Ky, valAt w V, l⟩ : StepP)) = 0)))] fun b12 => ?_)))
 refine thn_n ?_
 refine WP.test (p := ¬ ((chkI (⟨16, A, B, Ky, valAt w V, l⟩ : StepP)) = 0)) rfl Bp.dec (fun h13 => ?_) (fun h13 => ?_)
 ·refine WP.seq (wP [2, 3] [.string ⟨#[]⟩, iI (chkI (⟨16, A, B, Ky, valAt w V, l⟩ : StepP))] fun b14 => ?_)
  refine thn_n (WP.ret (thn_r ?_))
  refine bodyQ.of _ rfl [.string ⟨#[]⟩, iI (chkI (⟨16, A, B, Ky, valAt w V, l⟩ : StepP))] ⟨rfl, rfl, trivial⟩ ?_
  exact ⟨by simp only [pack]; rw [lineV_no h13], hp10.fr⟩
 ·replace h13 := Classical.not_not.1 h13
  refine WP.skip (thn_n (WP.seq (wR (oQ 4 {} [iI 16, qb17] [1, 17] [pP g3, qb17] (.cons (l1 3 0 (iI 16) hp10.get0) (.cons (show InB (16) (17) from ⟨by omega, by omega⟩) (.cons (lN 56 112 qb18 (row_at hl.tab hp10.fr)) .nil))) fun b15 => ?_))))
  refine OPS.cons (opStep.alloc hp10 qb2 (by kernel_rfl) (fun g18 w16 hp17 => ?_))
  refine OPS.cons (opStep.store0 hp17 rfl qb18 qb18 (by kernel_rfl) (fun w19 hp20 => ?_))
  refine OPS.nil (thn_n (WP.seq (wR (oQ 2 {} [.string ⟨#[114, 111, 117, 110, 100]⟩] [1, 5, 19] [pP g3, pP g18, .string ⟨#[114, 111, 117, 110, 100]⟩] (.cons (l1 9 0 (.string ⟨#[114, 111, 117, 110, 100]⟩) hp20.get0) .nil) fun b21 => ?_))))
  refine OPS.cons (opStep.buildSlice (E := 9) hp20 [.string ⟨#[114, 111, 117, 110, 100]⟩] (by kernel_rfl) (fun g24 w22 hp23 => ?_))
  refine oP 1 [1, 5, 6] (qb3 g3 g18 g24) fun b25 => ?_
  refine OPS.nil (thn_n (WP.seq (WP.seq (wQ {} [bF] [1, 5, 6, 22] [pP g3, pP g18, .slice (some ⟨g24, 0, none⟩) 1 1, bF] (.cons (l1 4 1 (bF) hp23.get1) .nil) fun b26 => ?_))))
  refine thn_n (WP.condF rfl (WP.skip (thn_n (WP.seq (WP.seq (wQ {} [bT] [1, 5, 6, 30] (qb4 g3 g18 g24) (.cons (l1 4 2 (bT) hp23.get1) .nil) fun b27 => ?_))))))
  refine thn_n (WP.condT rfl (wR (oQ 3 {} [iI B] [1, 5, 31, 33] (qb5 g3 g18 g24 B) (.cons (l1 3 2 (iI B) hp23.get2) .nil) fun b28 => ?_)))
  refine OPS.cons (opStep.call (some 34) [iI B] (by kernel_rfl) (itoa_c B (by omega) (by omega) _ (hl.lib.fram hp23.fr)) ?_)
  rintro _ w31 ⟨rfl, hf32⟩
  refine ⟨_, rfl, ?_⟩
  have hp33 := hp23.step hf32
  refine OPS.cons (opStep.buildSlice (E := 9) hp33 [.string (itoaT B)] (by kernel_rfl) (fun g36 w34 hp35 => ?_))
  have hp39 := hp35.pull1
  have hp40 := (show Hp w Non [Res.own 9 1 (.slice (some ⟨g24, 0, none⟩) 1 1) 1 (List.flatMap strc [⟨#[114, 111, 117, 110, 100]⟩]), Res.row g36 [.string (itoaT B)] 9, Res.row g18 qb18 56, Res.row g3 [iI 16, iI A, iI B, .string Ky, .slice V.a V.n V.c, .slice L.a L.n L.c] 31] w34 from hp39.rowOwnN (sz := 1) (n := 1) rfl (by decide))
  refine OPS.cons (opStep.append0 [.string (itoaT B)] hp40 16 (by kernel_rfl) rfl rfl rfl (SlR.row (n := 1) hp40.get1 rfl).rd (List.all_eq_true.1 (by kernel_rfl)) (by decide) (by omega) (by omega) (fun a41 c42 w43 hp44 hn45 => ?_))
  rw [(show List.flatMap strc [⟨#[114, 111, 117, 110, 100]⟩] ++ [.string (itoaT B)] = List.flatMap strc ([⟨#[114, 111, 117, 110, 100]⟩] ++ [itoaT B]) from (List.flatMap_append (xs := [⟨#[114, 111, 117, 110, 100]⟩]) (ys := [itoaT B])).symm)] at hp44
  refine oP 1 [1, 5, 6] [pP g3, pP g18, .slice a41 (1 + 1) c42] fun b46 => ?_
  refine OPS.nil (thn_n (WP.seq (WP.seq (wQ {} [bF] [1, 5, 6, 38] [pP g3, pP g18, .slice a41 (1 + 1) c42, bF] (.cons (l1 4 3 (bF) hp44.get2) .nil) fun b47 => ?_))))
  refine thn_n (WP.condF rfl (WP.skip (thn_n (WP.seq (WP.seq (wQ {} [bF] [1, 6, 46] [pP g3, .slice a41 (1 + 1) c42, bF] (.cons (l1 4 4 (bF) hp44.get2) .nil) fun b48 => ?_))))))
  refine thn_n (WP.condF rfl (WP.skip (thn_n (WP.seq (WP.seq (wQ {} [.slice L.a L.n L.c] [6, 55, 56, 57] [.slice a41 (1 + 1) c42, .slice L.a L.n L.c, iI ((L.n : Nat) : Int), iI 0] (.cons (l1 29 5 (.slice L.a L.n L.c) hp44.get3) .nil) fun b49 => ?_))))))
  refine thn_n (WP.block ?_)
  refine WP.loop (fun mz_ e50 w51 => ∃ (j : Nat) (xs : List ByteArray) (ao : Option Addr) (no : Nat) (co : Nat), mz_ = l.length - j ∧ (j ≤ l.length ∧ xs = [⟨#[114, 111, 117, 110, 100]⟩, itoaT B] ++ (l.take j).map itoaT) ∧ List.map e50 [6, 55, 56, 57] = [.slice ao no co, .slice L.a L.n L.c, iI ((L.n : Nat) : Int), iI (j : Int)] ∧ Hp w Non [Res.own 9 1 (.slice ao no co) no (List.flatMap strc xs), Res.row g36 [.string (itoaT B)] 9, Res.row g18 qb18 56, Res.row g3 [iI 16, iI A, iI B, .string Ky, .slice V.a V.n V.c, .slice L.a L.n L.c] 31] w51) (l.length - (0)) ⟨0, [⟨#[114, 111, 117, 110, 100]⟩] ++ [itoaT B], a41, 1 + 1, c42, rfl, ⟨by omega, rfl⟩, by kernel_rfl, hp44⟩ ?_
  rintro _ e50 w51 ⟨j, xs, ao, no, co, rfl, hI53, hE54, hp52⟩
  obtain ⟨b55, rfl⟩ := toMk hE54
  clear hE54
  obtain ⟨pa, pb⟩ := hI53
  have pe := own_flat (sz := 1) (fun _ => rfl) (by decide) hp52.get0
  have pl : xs.length = 2 + j := by rw [pb, List.length_append, List.length_map, List.length_take]; simp; omega
  have hlj : j < l.length → inI l[j]! := fun q => hi.2.2 _ (List.mem_of_getElem? (get_bang q))
  unfold inI at hlj
  refine WP.seq (wP [6, 55, 56, 57, 58] [.slice ao no co, .slice L.a L.n L.c, iI ((L.n : Nat) : Int), iI (j : Int), .bool (decide ((j : Int) < ((L.n : Nat) : Int)))] fun b56 => ?_)
  refine thn_n (WP.seq ?_)
  refine WP.test (p := (j : Int) < ((L.n : Nat) : Int)) rfl Bp.dec (fun h57 => ?_) (fun h57 => ?_)
  ·refine WP.skip (thn_n (WP.seq (WP.block (WP.seq ?_))))
   have hy59 : (l)[j]? = some l[j]! := get_bang (by first | (omega) | (simp only [List.length_append, List.length_cons, List.length_nil]; omega) | (simp only [List.length_take, List.length_append, List.length_cons, List.length_nil]; omega))
   refine wQ {} [iI (l[j]!)] [6, 8, 55, 56, 57] [.slice ao no co, iI (l[j]!), .slice L.a L.n L.c, iI ((L.n : Nat) : Int), iI (j : Int)] (.cons (show InB ((j : Int)) (L.n) from ⟨by omega, by omega⟩) (.cons ((hL.at hp52).some (by omega)) (.cons (Ld.add0 (Ld.el1 (P := Tryd.prog) (t := 3) (hL.at hp52).rd 1 (fun _ => rfl) hy59 (o := 0) (v := iI (l[j]!)) (by kernel_rfl))) .nil))) fun b60 => ?_
   refine thn_n (wR (oP 2 [55, 56, 57, 61, 62] [.slice L.a L.n L.c, iI ((L.n : Nat) : Int), iI (j : Int), .slice ao no co, iI (l[j]!)] fun b61 => ?_))
   refine OPS.cons (opStep.call (some 63) [iI (l[j]!)] (by kernel_rfl) (itoa_c (l[j]!) (by omega) (by omega) _ (hl.lib.fram hp52.fr)) ?_)
   rintro _ w64 ⟨rfl, hf65⟩
   refine ⟨_, rfl, ?_⟩
   have hp66 := hp52.step hf65
   refine OPS.cons (opStep.buildSlice (E := 9) hp66 [.string (itoaT (l[j]!))] (by kernel_rfl) (fun g69 w67 hp68 => ?_))
   refine OPS.cons (opStep.append1 [.string (itoaT (l[j]!))] hp68 16 (by kernel_rfl) rfl rfl rfl (SlR.row (n := 1) hp68.get0 rfl).rd (List.all_eq_true.1 (by kernel_rfl)) (by decide) (by omega) (by omega) (fun a72 c73 w74 hp75 hn76 => ?_))
   rw [(show List.flatMap strc xs ++ [.string (itoaT (l[j]!))] = List.flatMap strc (xs ++ [itoaT (l[j]!)]) from (List.flatMap_append (xs := xs) (ys := [itoaT (l[j]!)])).symm)] at hp75
   refine oP 1 [6, 55, 56, 57] [.slice a72 (no + 1) c73, .slice L.a L.n L.c, iI ((L.n : Nat) : Int), iI (j : Int)] fun b77 => ?_
   refine OPS.nil (blk_n (thn_n (wQ {} [] [6, 55, 56, 57] [.slice a72 (no + 1) c73, .slice L.a L.n L.c, iI ((L.n : Nat) : Int), iI ((j : Int) + 1)] (.cons (show Rng .i64 ((j : Int) + 1) from Rng.i64 (by omega)) .nil) fun b78 => ?_)))
   refine thn_n ?_
   exact ⟨l.length - (j + 1), (by omega), j + 1, xs ++ [itoaT (l[j]!)], a72, no + 1, c73, rfl, ⟨by omega, by rw [pb, List.take_succ_eq_append_getElem (by omega), List.map_append, ← List.append_assoc]; rw [getElem!_pos l j (by omega)]; rfl⟩, by kernel_rfl, (hp75.sub (.cons _ (.cons_cons _ (.cons_cons _ (.cons_cons _ (.cons_cons _ (.slnil)))))))⟩
  ·refine WP.exit (thn_x (thn_x (blk_hit (thn_n (WP.seq ?_)))))
   obtain rfl : j = l.length := by omega
   have hwe : joinB xs = lineS ⟨16, A, B, Ky, valAt w V, l⟩ := by rw [pb, List.take_of_length_le (Nat.le_refl _)]; rfl
   refine wR (oP 1 [67] [.slice ao no co] fun b79 => ?_)
   have hp82 := hp52.pull0
   have hjl := own_flat (sz := 1) (fun _ => rfl) (by decide) hp82.get0
   refine OPS.cons (opStep.call (some 68) [.slice ao no co, .string ⟨#[32]⟩] (by kernel_rfl) (join_c (by omega) (by omega) (by rw [hwe]; exact hjz) hp82) ?_)
   rintro _ w83 ⟨rfl, hf84⟩
   refine ⟨_, rfl, ?_⟩
   have hp85 := hp82.step hf84
   refine oP 2 [2, 3] (qb6 xs) fun b86 => ?_
   refine OPS.nil (thn_n (WP.ret ?_))
   refine bodyQ.of _ rfl (qb6 xs) ⟨rfl, rfl, trivial⟩ ?_
   have hck : chkI ⟨16, A, B, Ky, valAt w V, l⟩ = 0 := by have h_ := h13; omega
   exact ⟨by simp only [pack]; rw [hwe, hck, lineV_ok (chk_ok hck)], hp85.fr⟩

theorem ln_kk (k : Int) (hpa : PA k) (A B : Int) (Ky : ByteArray) (V L : SlH) (l : List Int) (w : World) (hl : LibS w) (hx : StR w Tr ⟨k, A, B, Ky, V, L⟩ ⟨k, A, B, Ky, valAt w V, l⟩) (hs : smS ⟨k, A, B, Ky, valAt w V, l⟩) :
  Calls Tryd.prog 12 #[GStep.val (⟨k, A, B, Ky, V, L⟩ : GStep)] w (fun r_ w' => r_ = .returned (.tuple #[.string (lineV ⟨k, A, B, Ky, valAt w V, l⟩), .int .i64 (chkI ⟨k, A, B, Ky, valAt w V, l⟩)]) ∧ Fram Non w w') := by
 have hpr := hpa.rng
 have hvb := hx.vb
 have hn := hx.ln
 have hL := hx.lr
 simp only at hvb hn hL
 have hi := hs.1
 have hA := hi.1
 have hB := hi.2.1
 unfold inI at hA hB
 have hsz1 := hs.2.1
 have hsz2 := hs.2.2.1
 have hsz3 := hs.2.2.2
 simp only at hA hB hsz1 hsz2 hsz3
 have hjz : (lineS ⟨k, A, B, Ky, valAt w V, l⟩).size ≤ 140737488355328 := by have h_ := line_size hs; simp only at h_; omega
 refine calls_of Tryd.func12 rfl 69 rfl (by simp) ?_
 have hp0 := Hp.init w
 have he0 : List.map (env0 [GStep.val (⟨k, A, B, Ky, V, L⟩ : GStep)]) [0] = [GStep.val (⟨k, A, B, Ky, V, L⟩ : GStep)] := by kernel_rfl
 obtain ⟨b0, he0⟩ := toMk he0
 rw [he0]
 clear he0
 refine WP.seq (wR ?_)
 refine OPS.cons (opStep.box hp0 [iI k, iI A, iI B, .string Ky, .slice V.a V.n V.c, .slice L.a L.n L.c] (by kernel_rfl) (fun g3 w1 hp2 => ?_))
 refine oP 2 [1] [pP g3] fun b4 => ?_
 refine OPS.nil (thn_n (WP.seq (WP.seq (wR (oQ 1 {} [GStep.val (⟨k, A, B, Ky, V, L⟩ : GStep)] [1, 9] [pP g3, GStep.val (⟨k, A, B, Ky, V, L⟩ : GStep)] (.cons (lN 31 0 [iI k, iI A, iI B, .string Ky, .slice V.a V.n V.c, .slice L.a L.n L.c] hp2.get0) .nil) fun b5 => ?_)))))
 refine OPS.cons (opStep.call (some 10) [GStep.val (⟨k, A, B, Ky, V, L⟩ : GStep)] (by kernel_rfl) (sc_Check _ (⟨k, A, B, Ky, valAt w V, l⟩ : StepP) _ (hl.fram hp2.fr) (hx.fram hp2.fr)) ?_)
 rintro _ w8 ⟨rfl, hf9⟩
 refine ⟨_, rfl, ?_⟩
 have hp10 := hp2.step hf9
 refine oP 1 [1, 4] [pP g3, iI (chkI (⟨k, A, B, Ky, valAt w V, l⟩ : StepP))] fun b11 => ?_
 refine OPS.nil (thn_n (WP.seq (wP [1, 4, 12] [pP g3, iI (chkI (⟨k, A, B, Ky, valAt w V, l⟩ : StepP)), .bool (decide (¬ ((chkI (⟨k, A, B, Ky, valAt w V, l⟩ : StepP)) = 0)))] fun b12 => ?_)))
 refine thn_n ?_
 refine WP.test (p := ¬ ((chkI (⟨k, A, B, Ky, valAt w V, l⟩ : StepP)) = 0)) rfl Bp.dec (fun h13 => ?_) (fun h13 => ?_)
 ·refine WP.seq (wP [2, 3] [.string ⟨#[]⟩, iI (chkI (⟨k, A, B, Ky, valAt w V, l⟩ : StepP))] fun b14 => ?_)
  refine thn_n (WP.ret (thn_r ?_))
  refine bodyQ.of _ rfl [.string ⟨#[]⟩, iI (chkI (⟨k, A, B, Ky, valAt w V, l⟩ : StepP))] ⟨rfl, rfl, trivial⟩ ?_
  exact ⟨by simp only [pack]; rw [lineV_no h13], hp10.fr⟩
 ·replace h13 := Classical.not_not.1 h13
  refine WP.skip (thn_n (WP.seq (wR (oQ 4 {} [iI k, .agg #[.string (kWord k), bT, bF, bF, bF, bF, bF]] [1, 17] [pP g3, .agg #[.string (kWord k), bT, bF, bF, bF, bF, bF]] (.cons (l1 3 0 (iI k) hp10.get0) (.cons (show InB (k) (17) from ⟨by omega, by omega⟩) (.cons (fm_a hpa (hl.fram hp10.fr)) .nil))) fun b15 => ?_))))
  refine OPS.cons (opStep.alloc hp10 qb2 (by kernel_rfl) (fun g18 w16 hp17 => ?_))
  refine OPS.cons (opStep.store0 hp17 rfl (qb19 k) (qb19 k) (by kernel_rfl) (fun w19 hp20 => ?_))
  refine OPS.nil (thn_n (WP.seq (wR (oQ 2 {} [.string (kWord k)] [1, 5, 19] [pP g3, pP g18, .string (kWord k)] (.cons (l1 9 0 (.string (kWord k)) hp20.get0) .nil) fun b21 => ?_))))
  refine OPS.cons (opStep.buildSlice (E := 9) hp20 [.string (kWord k)] (by kernel_rfl) (fun g24 w22 hp23 => ?_))
  refine oP 1 [1, 5, 6] (qb3 g3 g18 g24) fun b25 => ?_
  refine OPS.nil (thn_n (WP.seq (WP.seq (wQ {} [bT] [1, 5, 6, 22] (qb4 g3 g18 g24) (.cons (l1 4 1 (bT) hp23.get1) .nil) fun b26 => ?_))))
  refine thn_n (WP.condT rfl (wR (oQ 3 {} [iI A] [1, 5, 23, 25] (qb5 g3 g18 g24 A) (.cons (l1 3 1 (iI A) hp23.get2) .nil) fun b27 => ?_)))
  refine OPS.cons (opStep.call (some 26) [iI A] (by kernel_rfl) (itoa_c A (by omega) (by omega) _ (hl.lib.fram hp23.fr)) ?_)
  rintro _ w30 ⟨rfl, hf31⟩
  refine ⟨_, rfl, ?_⟩
  have hp32 := hp23.step hf31
  refine OPS.cons (opStep.buildSlice (E := 9) hp32 [.string (itoaT A)] (by kernel_rfl) (fun g35 w33 hp34 => ?_))
  have hp38 := hp34.pull1
  have hp39 := (show Hp w Non [Res.own 9 1 (.slice (some ⟨g24, 0, none⟩) 1 1) 1 (List.flatMap strc [kWord k]), Res.row g35 [.string (itoaT A)] 9, Res.row g18 (qb19 k) 56, Res.row g3 [iI k, iI A, iI B, .string Ky, .slice V.a V.n V.c, .slice L.a L.n L.c] 31] w33 from hp38.rowOwnN (sz := 1) (n := 1) rfl (by decide))
  refine OPS.cons (opStep.append0 [.string (itoaT A)] hp39 16 (by kernel_rfl) rfl rfl rfl (SlR.row (n := 1) hp39.get1 rfl).rd (List.all_eq_true.1 (by kernel_rfl)) (by decide) (by omega) (by omega) (fun a40 c41 w42 hp43 hn44 => ?_))
  rw [(show List.flatMap strc [kWord k] ++ [.string (itoaT A)] = List.flatMap strc ([kWord k] ++ [itoaT A]) from (List.flatMap_append (xs := [kWord k]) (ys := [itoaT A])).symm)] at hp43
  refine oP 1 [1, 5, 6] [pP g3, pP g18, .slice a40 (1 + 1) c41] fun b45 => ?_
  refine OPS.nil (thn_n (WP.seq (WP.seq (wQ {} [bF] [1, 5, 6, 30] [pP g3, pP g18, .slice a40 (1 + 1) c41, bF] (.cons (l1 4 2 (bF) hp43.get2) .nil) fun b46 => ?_))))
  refine thn_n (WP.condF rfl (WP.skip (thn_n (WP.seq (WP.seq (wQ {} [bF] [1, 5, 6, 38] [pP g3, pP g18, .slice a40 (1 + 1) c41, bF] (.cons (l1 4 3 (bF) hp43.get2) .nil) fun b47 => ?_))))))
  refine thn_n (WP.condF rfl (WP.skip (thn_n (WP.seq (WP.seq (wQ {} [bF] [1, 6, 46] [pP g3, .slice a40 (1 + 1) c41, bF] (.cons (l1 4 4 (bF) hp43.get2) .nil) fun b48 => ?_))))))
  refine thn_n (WP.condF rfl (WP.skip (thn_n (WP.seq (WP.seq (wQ {} [.slice L.a L.n L.c] [6, 55, 56, 57] [.slice a40 (1 + 1) c41, .slice L.a L.n L.c, iI ((L.n : Nat) : Int), iI 0] (.cons (l1 29 5 (.slice L.a L.n L.c) hp43.get3) .nil) fun b49 => ?_))))))
  refine thn_n (WP.block ?_)
  refine WP.loop (fun mz_ e50 w51 => ∃ (j : Nat) (xs : List ByteArray) (ao : Option Addr) (no : Nat) (co : Nat), mz_ = l.length - j ∧ (j ≤ l.length ∧ xs = [kWord k, itoaT A] ++ (l.take j).map itoaT) ∧ List.map e50 [6, 55, 56, 57] = [.slice ao no co, .slice L.a L.n L.c, iI ((L.n : Nat) : Int), iI (j : Int)] ∧ Hp w Non [Res.own 9 1 (.slice ao no co) no (List.flatMap strc xs), Res.row g35 [.string (itoaT A)] 9, Res.row g18 (qb19 k) 56, Res.row g3 [iI k, iI A, iI B, .string Ky, .slice V.a V.n V.c, .slice L.a L.n L.c] 31] w51) (l.length - (0)) ⟨0, [kWord k] ++ [itoaT A], a40, 1 + 1, c41, rfl, ⟨by omega, rfl⟩, by kernel_rfl, hp43⟩ ?_
  rintro _ e50 w51 ⟨j, xs, ao, no, co, rfl, hI53, hE54, hp52⟩
  obtain ⟨b55, rfl⟩ := toMk hE54
  clear hE54
  obtain ⟨pa, pb⟩ := hI53
  have pe := own_flat (sz := 1) (fun _ => rfl) (by decide) hp52.get0
  have pl : xs.length = 2 + j := by rw [pb, List.length_append, List.length_map, List.length_take]; simp; omega
  have hlj : j < l.length → inI l[j]! := fun q => hi.2.2 _ (List.mem_of_getElem? (get_bang q))
  unfold inI at hlj
  refine WP.seq (wP [6, 55, 56, 57, 58] [.slice ao no co, .slice L.a L.n L.c, iI ((L.n : Nat) : Int), iI (j : Int), .bool (decide ((j : Int) < ((L.n : Nat) : Int)))] fun b56 => ?_)
  refine thn_n (WP.seq ?_)
  refine WP.test (p := (j : Int) < ((L.n : Nat) : Int)) rfl Bp.dec (fun h57 => ?_) (fun h57 => ?_)
  ·refine WP.skip (thn_n (WP.seq (WP.block (WP.seq ?_))))
   have hy59 : (l)[j]? = some l[j]! := get_bang (by first | (omega) | (simp only [List.length_append, List.length_cons, List.length_nil]; omega) | (simp only [List.length_take, List.length_append, List.length_cons, List.length_nil]; omega))
   refine wQ {} [iI (l[j]!)] [6, 8, 55, 56, 57] [.slice ao no co, iI (l[j]!), .slice L.a L.n L.c, iI ((L.n : Nat) : Int), iI (j : Int)] (.cons (show InB ((j : Int)) (L.n) from ⟨by omega, by omega⟩) (.cons ((hL.at hp52).some (by omega)) (.cons (Ld.add0 (Ld.el1 (P := Tryd.prog) (t := 3) (hL.at hp52).rd 1 (fun _ => rfl) hy59 (o := 0) (v := iI (l[j]!)) (by kernel_rfl))) .nil))) fun b60 => ?_
   refine thn_n (wR (oP 2 [55, 56, 57, 61, 62] [.slice L.a L.n L.c, iI ((L.n : Nat) : Int), iI (j : Int), .slice ao no co, iI (l[j]!)] fun b61 => ?_))
   refine OPS.cons (opStep.call (some 63) [iI (l[j]!)] (by kernel_rfl) (itoa_c (l[j]!) (by omega) (by omega) _ (hl.lib.fram hp52.fr)) ?_)
   rintro _ w64 ⟨rfl, hf65⟩
   refine ⟨_, rfl, ?_⟩
   have hp66 := hp52.step hf65
   refine OPS.cons (opStep.buildSlice (E := 9) hp66 [.string (itoaT (l[j]!))] (by kernel_rfl) (fun g69 w67 hp68 => ?_))
   refine OPS.cons (opStep.append1 [.string (itoaT (l[j]!))] hp68 16 (by kernel_rfl) rfl rfl rfl (SlR.row (n := 1) hp68.get0 rfl).rd (List.all_eq_true.1 (by kernel_rfl)) (by decide) (by omega) (by omega) (fun a72 c73 w74 hp75 hn76 => ?_))
   rw [(show List.flatMap strc xs ++ [.string (itoaT (l[j]!))] = List.flatMap strc (xs ++ [itoaT (l[j]!)]) from (List.flatMap_append (xs := xs) (ys := [itoaT (l[j]!)])).symm)] at hp75
   refine oP 1 [6, 55, 56, 57] [.slice a72 (no + 1) c73, .slice L.a L.n L.c, iI ((L.n : Nat) : Int), iI (j : Int)] fun b77 => ?_
   refine OPS.nil (blk_n (thn_n (wQ {} [] [6, 55, 56, 57] [.slice a72 (no + 1) c73, .slice L.a L.n L.c, iI ((L.n : Nat) : Int), iI ((j : Int) + 1)] (.cons (show Rng .i64 ((j : Int) + 1) from Rng.i64 (by omega)) .nil) fun b78 => ?_)))
   refine thn_n ?_
   exact ⟨l.length - (j + 1), (by omega), j + 1, xs ++ [itoaT (l[j]!)], a72, no + 1, c73, rfl, ⟨by omega, by rw [pb, List.take_succ_eq_append_getElem (by omega), List.map_append, ← List.append_assoc]; rw [getElem!_pos l j (by omega)]; rfl⟩, by kernel_rfl, (hp75.sub (.cons _ (.cons_cons _ (.cons_cons _ (.cons_cons _ (.cons_cons _ (.slnil)))))))⟩
  ·refine WP.exit (thn_x (thn_x (blk_hit (thn_n (WP.seq ?_)))))
   obtain rfl : j = l.length := by omega
   have hwe : joinB xs = lineS ⟨k, A, B, Ky, valAt w V, l⟩ := by rw [pb, List.take_of_length_le (Nat.le_refl _)]; obtain ⟨f1, f2, f3, f4, f5, f6⟩ := hpa.fl; unfold lineS wordsS; simp only [f1, f2, f3, f4]; rfl
   refine wR (oP 1 [67] [.slice ao no co] fun b79 => ?_)
   have hp82 := hp52.pull0
   have hjl := own_flat (sz := 1) (fun _ => rfl) (by decide) hp82.get0
   refine OPS.cons (opStep.call (some 68) [.slice ao no co, .string ⟨#[32]⟩] (by kernel_rfl) (join_c (by omega) (by omega) (by rw [hwe]; exact hjz) hp82) ?_)
   rintro _ w83 ⟨rfl, hf84⟩
   refine ⟨_, rfl, ?_⟩
   have hp85 := hp82.step hf84
   refine oP 2 [2, 3] (qb6 xs) fun b86 => ?_
   refine OPS.nil (thn_n (WP.ret ?_))
   refine bodyQ.of _ rfl (qb6 xs) ⟨rfl, rfl, trivial⟩ ?_
   have hck : chkI ⟨k, A, B, Ky, valAt w V, l⟩ = 0 := by have h_ := h13; omega
   exact ⟨by simp only [pack]; rw [hwe, hck, lineV_ok (chk_ok hck)], hp85.fr⟩

theorem sc_Line (s : GStep) (x : StepP) (w : World) (hl : LibS w) (hx : StR w Tr s x) (hs : smS x) : Calls Tryd.prog 12 #[GStep.val s] w (fun r_ w' => r_ = .returned (.tuple #[.string (lineV x), .int .i64 (chkI x)]) ∧ Fram Non w w') := by
  obtain ⟨K, A, B, Ky, V, L⟩ := s
  obtain ⟨K', A', B', Ky', v, l⟩ := x
  have h1 := hx.kind
  have h2 := hx.a
  have h3 := hx.b
  have h4 := hx.key
  have h5 := hx.val
  simp only at h1 h2 h3 h4 h5
  subst h1 h2 h3 h4 h5
  by_cases hk : 1 ≤ K ∧ K ≤ 16
  · rcases kcases hk with rfl | rfl | rfl | rfl | rfl | rfl | rfl | rfl | rfl | rfl | rfl | rfl | rfl | rfl | rfl | rfl
    · exact ln_k1 A B Ky V L l w hl hx hs
    · exact ln_k2 A B Ky V L l w hl hx hs
    · exact ln_kk 3 (by unfold PA; decide) A B Ky V L l w hl hx hs
    · exact ln_kk 4 (by unfold PA; decide) A B Ky V L l w hl hx hs
    · exact ln_kk 5 (by unfold PA; decide) A B Ky V L l w hl hx hs
    · exact ln_kk 6 (by unfold PA; decide) A B Ky V L l w hl hx hs
    · exact ln_kk 7 (by unfold PA; decide) A B Ky V L l w hl hx hs
    · exact ln_kk 8 (by unfold PA; decide) A B Ky V L l w hl hx hs
    · exact ln_k9 A B Ky V L l w hl hx hs
    · exact ln_k10 A B Ky V L l w hl hx hs
    · exact ln_kk 11 (by unfold PA; decide) A B Ky V L l w hl hx hs
    · exact ln_k12 A B Ky V L l w hl hx hs
    · exact ln_kk 13 (by unfold PA; decide) A B Ky V L l w hl hx hs
    · exact ln_k14 A B Ky V L l w hl hx hs
    · exact ln_kk 15 (by unfold PA; decide) A B Ky V L l w hl hx hs
    · exact ln_k16 A B Ky V L l w hl hx hs
  · exact ln_kno K hk A B Ky V L l w hl hx
end Go.Proofs.YtbpedjefoajegaaDoor.K
namespace Go.Proofs.YtbpedjefoajegaaDoor.K
open Go Go.RowKit
set_option linter.unusedVariables false

def HT (P : Program) (N : Nat) (ops : Array Oper) (Q : Post) (S : World → Prop) (ks : List Nat) : Nat → Array Bool → Env → World → Prop
  | 0, listed, e, w => Region.ready .any ops listed = [] ∧ Q .normal e w
  | n + 1, listed, e, w =>
    (∃ i o, ops[i]? = some o ∧ Region.free .any ops listed i = true ∧ i ∈ Region.ready .any ops listed ∧ ks.all (fun j => waitsB ops j i) = true ∧ S w ∧ ∃ b, guardB ops N e o = some b ∧
      if b then ∃ v, (∀ w', S w' → (execOp (ev e) { o with guard := none }).run P w' = .ok (.value v) w') ∧ HT P N ops Q S ks n (listed.setIfInBounds i true) (put e o.dst v) w else HT P N ops Q S ks n (listed.setIfInBounds i true) (put e o.dst undef) w) ∨
    (Region.ready .any ops listed ≠ [] ∧ ∀ j ∈ Region.ready .any ops listed, ∀ o, ops[j]? = some o → opStep P N ops Q o (fun e' w' => (ks.contains j = true ∨ S w') ∧ HT P N ops Q S ks n (listed.setIfInBounds j true) e' w') e w)
theorem HT.sound {P : Program} {N : Nat} {ops : Array Oper} {Q : Post} {S : World → Prop} {ks : List Nat} (hN : (ops.toList.all fun o => dstOk N o.dst) = true) (hs : Region.noSelect ops = true) (hQ : NoPanic Q) :
    ∀ (n : Nat) (listed : Array Bool) (e : Env) (w : World) (a : Act), Is N a e → HT P N ops Q S ks n listed e w → wpAnyK P ops (lift N Q) S ks.contains n listed a w
  | 0, listed, e, w, a, ha, h => ⟨h.1, e, ha, h.2⟩
  | n + 1, listed, e, w, a, ha, .inl ⟨i, oi, hoi, hf, hr', hks, hS, b, hg, hb⟩ => by
    have hw := QOPS.val1.wanted_of ha hg
    have hd : dstOk N oi.dst = true := by
      rw [List.all_eq_true] at hN
      exact hN oi (by have := Array.mem_of_getElem? hoi; simpa using this)
    have hx : execOp a.eval oi = execOp (ev e) { oi with guard := none } := by rw [ha.eval]; rfl
    have hKk : ∀ j oj, ops[j]? = some oj → ks.contains j = true → ∃ e ∈ oj.after, Region.binds .any e = true ∧ e.on = i := by
      intro j oj hoj hk
      have := List.all_eq_true.1 hks j (by simpa using hk)
      unfold waitsB at this
      rw [hoj] at this
      simp only [Array.any_eq_true, Bool.and_eq_true, beq_iff_eq] at this
      obtain ⟨k, hk, h1, h2⟩ := this
      exact ⟨_, Array.getElem_mem hk, h1, h2⟩
    have fin : ∀ v, YieldsIf P ops S oi v a → HT P N ops Q S ks n (listed.setIfInBounds i true) (put e oi.dst v) w → wpAnyK P ops (lift N Q) S ks.contains (n + 1) listed a w := fun v hy hn =>
      wpAnyK_first hoi (Region.noSelect_spec hs) (fun c a w ⟨e', _, hq⟩ => hQ c e' w hq) hKk n listed a w (Region.free_spec hoi hf) hr' hy hS
        (HT.sound hN hs hQ n _ _ w _ (ha.put _ _ hd) hn)
    cases b with
    | true =>
      rw [if_pos rfl] at hb
      obtain ⟨v, hv, hn⟩ := hb
      exact fin v (.inl ⟨hw, fun w' hw' => by rw [hx]; exact hv w' hw'⟩) hn
    | false =>
      rw [if_neg (by simp)] at hb
      exact fin undef (.inr ⟨hw, rfl⟩) hb
  | n + 1, listed, e, w, a, ha, .inr ⟨h0, h⟩ => by
    refine ⟨fun h => absurd h h0, fun j hj => ?_⟩
    obtain ⟨_, oi, hoi, _⟩ := mem_ready.1 hj
    have hd : dstOk N oi.dst = true := by
      rw [List.all_eq_true] at hN
      exact hN oi (by have := Array.mem_of_getElem? hoi; simpa using this)
    have h' := h j hj oi hoi a ha hd
    unfold wpOp
    simp only [hoi]
    split
    · rename_i hw
      rw [if_pos hw] at h'
      exact .inl (Oper.wp_mono (fun a' w' ⟨e', he', hn⟩ => ⟨hn.1, HT.sound hN hs hQ n _ e' w' a' he' hn.2⟩) h')
    · rename_i hw
      rw [if_neg (by simpa using hw)] at h'
      obtain ⟨e', he', hn⟩ := h'
      exact ⟨hn.1, HT.sound hN hs hQ n _ e' w _ he' hn.2⟩
theorem WP.tree {P : Program} {N : Nat} {Q : Post} {e : Env} {w : World} {id : Nat} {ops : Array Oper} (S : World → Prop) (ks : List Nat) (n : Nat) (hQ : NoPanic Q)
    (hB : (P.follows .mixedOrders, Region.noSelect ops, ops.toList.all fun o => dstOk N o.dst, Nat.beq n ops.size) = (true, true, true, true))
    (h : HT P N ops Q S ks n (Array.replicate n false) e w.drew) : WP P N (.region id ops true) Q e w := by
  simp only [Prod.mk.injEq] at hB
  obtain ⟨h1, h2, h3, h5⟩ := hB
  intro a ha
  have h5' : n = ops.size := Nat.eq_of_beq_eq_true h5
  refine wp_region_any h1 ?_
  subst h5'
  exact wpAny_of_K _ _ _ _ (HT.sound h3 h2 hQ _ _ e w.drew a ha h)
def takeOk (ops : Array Oper) (ks : List Nat) : List (Nat × Bool) → Array Bool → Bool
  | [], _ => true
  | (i, b) :: r, listed => b && Region.free .any ops listed i && (Region.ready .any ops listed).contains i && ks.all (fun j => waitsB ops j i) && takeOk ops ks r (listed.setIfInBounds i true)
def listAll : List (Nat × Bool) → Array Bool → Array Bool
  | [], l => l
  | (i, _) :: r, l => listAll r (l.setIfInBounds i true)
def QN (K : Env → World → Prop) : Post := fun x e w => match x with | .normal => K e w | _ => False
theorem QN.n {K : Env → World → Prop} {e : Env} {w : World} (h : K e w) : QN K .normal e w := h
section
variable {P : Program} {N : Nat} {ops : Array Oper} {Q : Post} {S : World → Prop} {ks : List Nat} {e : Env} {w : World} {n : Nat}
theorem HT.pre {n : Nat} : ∀ {l : List (Nat × Bool)} {listed : Array Bool} {e : Env}, takeOk ops ks l listed = true → HOPS P N ops (QN fun e w => HT P N ops Q S ks n (listAll l listed) e w) S ks l e w → HT P N ops Q S ks (l.length + n) listed e w
  | [], listed, e, _, h => by rw [show ([] : List (Nat × Bool)).length + n = n from Nat.zero_add n]; exact h
  | (i, b) :: r, listed, e, hok, h => by
    simp only [takeOk, Bool.and_eq_true] at hok
    obtain ⟨⟨⟨⟨rfl, hf⟩, hr⟩, hks⟩, hok'⟩ := hok
    have hr' : i ∈ Region.ready .any ops listed := by simpa using hr
    obtain ⟨_, oi, hoi, _⟩ := mem_ready.1 hr'
    obtain ⟨hS, b, hg, hb⟩ := h oi hoi
    rw [show ((i, true) :: r).length + n = (r.length + n) + 1 from by simp; omega]
    refine .inl ⟨i, oi, hoi, hf, hr', hks, hS, b, hg, ?_⟩
    cases b with
    | true =>
      rw [if_pos rfl] at hb ⊢
      obtain ⟨v, hv, hn⟩ := hb
      exact ⟨v, hv, HT.pre hok' hn⟩
    | false =>
      rw [if_neg (by simp)] at hb ⊢
      exact HT.pre hok' hb
theorem HT.done {listed : Array Bool} (hr : Region.ready .any ops listed = []) (h : Q .normal e w) : HT P N ops Q S ks 0 listed e w := ⟨hr, h⟩
/-- For each of these. -/
def AllR (P : Program) (N : Nat) (ops : Array Oper) (Q : Post) (S : World → Prop) (ks : List Nat) (n : Nat) (listed : Array Bool) (e : Env) (w : World) (rs : List Nat) : Prop :=
  ∀ j ∈ rs, ∀ o, ops[j]? = some o → opStep P N ops Q o (fun e' w' => (ks.contains j = true ∨ S w') ∧ HT P N ops Q S ks n (listed.setIfInBounds j true) e' w') e w
theorem AllR.nil {listed : Array Bool} : AllR P N ops Q S ks n listed e w [] := fun j hj => by simp at hj
theorem AllR.cons {listed : Array Bool} {j : Nat} {rs : List Nat} (o : Oper) (ho : ops[j]? = some o) (h : opStep P N ops Q o (fun e' w' => (ks.contains j = true ∨ S w') ∧ HT P N ops Q S ks n (listed.setIfInBounds j true) e' w') e w) (k : AllR P N ops Q S ks n listed e w rs) : AllR P N ops Q S ks n listed e w (j :: rs) := by
  intro i hi o' ho'
  rcases List.mem_cons.1 hi with rfl | hi
  · rw [ho] at ho'; cases ho'; exact h
  · exact k i hi o' ho'
theorem HT.br {listed : Array Bool} (rs : List Nat) (hr : Region.ready .any ops listed = rs) (hne : rs ≠ []) (h : AllR P N ops Q S ks n listed e w rs) : HT P N ops Q S ks (n + 1) listed e w :=
  .inr ⟨by rw [hr]; exact hne, by rw [hr]; exact h⟩
end
end Go.Proofs.YtbpedjefoajegaaDoor.K
namespace Go.Proofs.YtbpedjefoajegaaDoor.K
open Go Go.RowKit

section
variable {P : Program} {N : Nat} {Q : Post} {e : Env} {w : World}
/-- So many rounds at most. -/
def RND (P : Program) (N : Nat) (c : Code) (Q : Post) : Nat → Env → World → Prop
  | 0, _, _ => False
  | n + 1, e, w => WP P N c (thn (RND P N c Q n) Q) e w
theorem RND.step {c : Code} {n : Nat} (h : WP P N c (thn (RND P N c Q n) Q) e w) : RND P N c Q (n + 1) e w := h
theorem WP.rounds {c : Code} (n : Nat) (h : RND P N c Q n e w) : WP P N (.loop c) Q e w := by
  refine WP.loop (fun m e w => RND P N c Q m e w) n h ?_
  intro m e w hm
  cases m with
  | zero => exact hm.elim
  | succ m =>
    refine WP.mono (show WP P N c (thn (RND P N c Q m) Q) e w from hm) ?_
    intro x e w hq
    cases x with
    | normal => exact ⟨m, Nat.lt_succ_self m, hq⟩
    | _ => exact hq
end

theorem slr_take {α : Type} {w : World} {f : α → List Value} {a : Option Addr} {n k sz : Nat} {l : List α} (hf : ∀ x, (f x).length = sz) (h : SlR w a n (l.flatMap f)) (hk : k ≤ n) : SlR w a k ((l.take k).flatMap f) := by
  refine ⟨fun j u hu => ?_, fun h0 => h.some (by omega)⟩
  rw [← flat_take hf, List.getElem?_take] at hu
  split at hu
  · exact h.rd j u hu
  · simp at hu
section
variable {P : Program} {N : Nat} {ops : Array Oper} {Q : Post} {next : Env → World → Prop} {e : Env} {w w0 : World} {M : Nat → Prop} {L : List Res} {ty : TypeId} {pos : String} {af : Array Edge}
theorem opStep.storeAt {T t : TypeId} {x y : Operand} {b o i : Nat} {c : List Value} (hp : Hp w0 M (Res.row b c t :: L) w) (hx : ev e x = .pointer (some ((⟨b, o, none⟩ : Addr).add (i * 1)))) (v : Value) (c' : List Value)
    (hc : ((ev e y).cells.toList, (P.info? T).map (·.size), v.oneCell') = ([v], some 1, true)) (hl : o + i < c.length) (how : ow c (o + i) [v] = c')
    (h : ∀ w', Hp w0 M (Res.row b c' t :: L) w' → next e w') :
    opStep P N ops Q ⟨none, .store T x y, ty, pos, af, none⟩ next e w := by
  simp only [Prod.mk.injEq] at hc
  obtain ⟨hv, hsz, h1⟩ := hc
  rw [add_mk, Nat.mul_one] at hx
  cases hi : P.info? T with
  | none => simp [hi] at hsz
  | some i' =>
    simp [hi] at hsz
    have hg : w.heap[b]? = some (.cells c.toArray t (0, 0)) := hp.holds (Res.row b c t) (by simp)
    have hlt : b < w.heap.size := (Array.getElem?_eq_some_iff.1 hg).1
    have hrun := run_storeCells_at (P := P) b t (o + i) [v] 0 c w hg (by simp; omega) (by simpa using h1)
    rw [Nat.add_zero, how] at hrun
    refine opStep.skip (w' := w.setRow b c'.toArray) rfl ?_ (h _ ?_)
    · have hs2 : (ev e y).cells.size = i'.size := by rw [hsz]; have := congrArg List.length hv; simpa using this
      simp [execOp, Instr.storeAt, Instr.sureAddr, hx, storeVar, sizeOf, typeInfo, hi, hs2, hv, hrun]
    · refine Hp.mod (A := []) hp (setRow_fram w b _) (Res.row b c' t) (setRow_heap w b _ _ t _ hg) fun k hk => ⟨?_, .inl hk⟩
      have : k = b := hk
      subst this; simpa using hlt
end
end Go.Proofs.YtbpedjefoajegaaDoor.K
