/- The walks of CfgD: what each function computes. -/
import Derived.Test.YtpmcjhjlajmljaaDoorRRRRProg
import Derived.Test.YtpmcjhjlajmljaaDoorRRRRCoreO
import Derived.Test.YtpmcjhjlajmljaaDoorRRRRCoreI
import Derived.Test.YtpmcjhjlajmljaaDoorRRRRCfgC
namespace Go.Proofs.YtpmcjhjlajmljaaDoorRRRR.K
open Go Go.Proofs Go.RowKit
set_option linter.unusedVariables false
set_option linter.unusedSimpArgs false
set_option maxRecDepth 20000
set_option maxHeartbeats 4000000

def convBS (P : Program) (src dst : TypeId) : Bool := match P.underlying src, P.underlying dst with
  | some (.slice el), some .string => (match P.underlying el with | some (.int .u8) => true | _ => false)
  | _, _ => false
theorem opStep.bytesStr {P : Program} {N : Nat} {ops : Array Oper} {Q : Post} {next : Env → World → Prop} {e : Env} {w : World} {ty : TypeId} {pos : String} {af : Array Edge} {d : Nat} {src dst : TypeId} {x : Operand} {a : Option Addr} {n c : Nat} {s : ByteArray} (hT : convBS P src dst = true) (hx : ev e x = .slice a n c) (hb : Bs P w (.slice a n c) (.string s)) (h : next (upd e d (.string s)) w) :
    opStep P N ops Q ⟨some d, .convert src dst x, ty, pos, af, none⟩ next e w := by
  unfold convBS at hT
  split at hT
  · rename_i el hs hd
    split at hT
    · rename_i hel
      have hb' : (Conv.bytesToString (.slice a n c)).run P w = .ok _ w := hb
      refine opStep.val (v := .string s) (w' := w) rfl ?_ h
      simp [execOp, convert, run_underlying hs, run_underlying hd, hx, run_underlying hel, hb']
    · cases hT
  · cases hT
theorem dec_step (n : Int) (h0 : -1000000000 ≤ n) (h1 : n ≤ 1000000000) (w : World) (ihA : n < 0 → ∀ w' : World, Calls Tryd.prog 24 #[.int .i64 (-n)] w' (fun r_ w'' => r_ = .returned (.string (itoaT (-n))) ∧ Fram Non w' w'')) (ihB : 10 ≤ n → ∀ w' : World, Calls Tryd.prog 24 #[.int .i64 (n.tdiv 10)] w' (fun r_ w'' => r_ = .returned (.string (itoaT (n.tdiv 10))) ∧ Fram Non w' w'')) :
    Calls Tryd.prog 24 #[.int .i64 n] w (fun r_ w' => r_ = .returned (.string (itoaT n)) ∧ Fram Non w w') := by
  have z1 := itoaT_size (n := -n) (by omega) (by omega)
  have td : 10 ≤ n → n.tdiv 10 = n / 10 := fun h => Int.tdiv_eq_ediv_of_nonneg (by omega)
  have tm1 : 0 ≤ n → 0 ≤ n.tmod 10 := fun h => Int.tmod_nonneg 10 h
  have tm2 : n.tmod 10 < 10 := Int.tmod_lt_of_pos n (by omega)
  have z2 : 10 ≤ n → (itoaT (n.tdiv 10)).size ≤ 21 := fun h => itoaT_size (by have := td h; omega) (by have := td h; omega)
  have z3 : (⟨#[45]⟩ : ByteArray).size = 1 := rfl
  have z4 : ∀ x : Int, (strOf [x]).size = 1 := fun _ => rfl
  have z5 := z4 (48 + n.tmod 10)
  refine calls_of Tryd.func24 rfl 26 rfl (by simp) ?_
  have hp0 := Hp.init w
  have he0 : List.map (env0 [.int .i64 n]) [0] = [.int .i64 n] := by kernel_rfl
  obtain ⟨b0, he0⟩ := toMk he0
  rw [he0]
  clear he0
  refine WP.seq ?_
  refine WP.pure {} [] [0] [.int .i64 n] .nil (by kernel_rfl) (fun b1 => ?_)
  refine thn_n ?_
  refine WP.seq ?_
  refine WP.seq ?_
  refine WP.pure {} [] [0, 4] [.int .i64 n, .bool (decide (n < 0))] .nil (by kernel_rfl) (fun b2 => ?_)
  refine thn_n ?_
  refine WP.test (p := n < 0) rfl Bp.dec (fun h3 => ?_) (fun h3 => ?_)
  · refine WP.seq ?_
    refine WP.region _ rfl (by kernel_rfl) ?_
    refine OPS.batch 2 {} [] [6] [.int .i64 (-n)] (.cons (show Rng .i64 (-n) from Rng.i64 (by omega)) .nil) (by kernel_rfl) (fun b4 => ?_)
    refine OPS.cons (opStep.call (some 7) [.int .i64 (-n)] (by kernel_rfl) ((ihA (by omega) _)) ?_)
    rintro _ w7 ⟨rfl, hf8⟩
    refine ⟨_, rfl, ?_⟩
    have hp9 := hp0.step hf8
    refine OPS.batch 2 {} [] [2] [.string ((⟨#[45]⟩ : ByteArray) ++ (itoaT (-n)))] (.cons (show (⟨#[45]⟩ : ByteArray).size + (itoaT (-n)).size ≤ 9223372036854775807 from by omega) .nil) (by kernel_rfl) (fun b10 => ?_)
    refine OPS.nil ?_
    refine thn_n ?_
    refine WP.ret ?_
    refine thn_r ?_
    refine bodyQ.of _ rfl [.string ((⟨#[45]⟩ : ByteArray) ++ (itoaT (-n)))] ⟨rfl, trivial⟩ ?_
    exact ⟨by simp only [pack]; rw [show (⟨#[45]⟩ : ByteArray) ++ (itoaT (-n)) = itoaT n from dec_neg h3], hp9.fr⟩
  · refine WP.skip ?_
    refine thn_n ?_
    refine WP.seq ?_
    refine WP.seq ?_
    refine WP.pure {} [] [0, 10] [.int .i64 n, .bool (decide (n < 10))] .nil (by kernel_rfl) (fun b11 => ?_)
    refine thn_n ?_
    refine WP.test (p := n < 10) rfl Bp.dec (fun h12 => ?_) (fun h12 => ?_)
    · refine WP.seq ?_
      refine WP.region _ rfl (by kernel_rfl) ?_
      refine OPS.batch 3 {} [] [13] [.int .u8 (48 + n)] (.cons (show Rng .u8 (n) from Rng.u8 (by omega)) (.cons (show Rng .u8 (48 + n) from Rng.u8 (by omega)) .nil)) (by kernel_rfl) (fun b13 => ?_)
      refine OPS.cons (opStep.buildSlice (E := 5) hp0 [.int .u8 (48 + n)] (by kernel_rfl) (fun g16 w14 hp15 => ?_))
      refine OPS.batch 2 {} [.string (strOf [48 + n])] [2] [.string (strOf [48 + n])] (.cons (show Bs Tryd.prog w14 (.slice (some ⟨g16, 0, none⟩) 1 1) (.string (strOf [48 + n])) from Bs.of (show SlR w14 (some ⟨g16, 0, none⟩) 1 (List.flatMap u8c [48 + n]) from SlR.row (n := 1) hp15.get0 rfl) rfl) .nil) (by kernel_rfl) (fun b17 => ?_)
      refine OPS.nil ?_
      refine thn_n ?_
      refine WP.ret ?_
      refine thn_r ?_
      refine bodyQ.of _ rfl [.string (strOf [48 + n])] ⟨rfl, trivial⟩ ?_
      exact ⟨by simp only [pack]; rw [show (strOf [48 + n]) = itoaT n from dec_one (by omega) (by omega)], hp15.fr⟩
    · refine WP.skip ?_
      refine thn_n ?_
      refine WP.seq ?_
      have hp18 := hp0.drew
      refine WP.tree (fun w19 => True) [] 11 (np_thn np_body) (by kernel_rfl) ?_
      refine HT.pre (l := [(0, true), (1, true), (3, true), (4, true), (5, true), (6, true)]) (n := 5) (by kernel_rfl) ?_
      refine HOPS.take 6 {} [] [17, 22] [.int .i64 (n.tdiv 10), .int .u8 (48 + (n.tmod 10))] (by kernel_rfl) trivial (fun w20 hS21 => QB.mk (.cons (show (10 : Int) ≠ 0 from by omega) (.cons (show Rng .i64 (n.tdiv 10) from Rng.i64 (by omega)) (.cons (show (10 : Int) ≠ 0 from by omega) (.cons (show Rng .u8 (n.tmod 10) from Rng.u8 (by omega)) (.cons (show Rng .u8 (48 + (n.tmod 10)) from Rng.u8 (by omega)) .nil))))) (by kernel_rfl)) (fun b22 => ?_)
      refine HOPS.nil (QN.n ?_)
      refine HT.br (n := 4) [2, 7] (by kernel_rfl) (by simp) ?_
      refine AllR.cons _ rfl ?_ ?_
      · refine (opStep.call (some 18) [.int .i64 (n.tdiv 10)] (by kernel_rfl) ((ihB (by omega) _)) ?_)
        rintro _ w25 ⟨rfl, hf26⟩
        refine ⟨_, rfl, ?_⟩
        have hp27 := hp18.step hf26
        refine ⟨.inr trivial, ?_⟩
        refine HT.br (n := 3) [7] (by kernel_rfl) (by simp) ?_
        refine AllR.cons _ rfl ?_ AllR.nil
        refine (opStep.buildSlice (E := 5) hp27 [.int .u8 (48 + (n.tmod 10))] (by kernel_rfl) (fun g30 w28 hp29 => ?_))
        refine ⟨.inr trivial, ?_⟩
        refine HT.br (n := 2) [8] (by kernel_rfl) (by simp) ?_
        refine AllR.cons _ rfl ?_ AllR.nil
        refine (opStep.bytesStr (by kernel_rfl) (by kernel_rfl) (show Bs Tryd.prog w28 (.slice (some ⟨g30, 0, none⟩) 1 1) (.string (strOf [48 + (n.tmod 10)])) from Bs.of (show SlR w28 (some ⟨g30, 0, none⟩) 1 (List.flatMap u8c [48 + (n.tmod 10)]) from SlR.row (n := 1) hp29.get0 rfl) rfl) ?_)
        refine ⟨.inr trivial, ?_⟩
        refine HT.pre (l := [(9, true), (10, true)]) (n := 0) (by kernel_rfl) ?_
        refine HOPS.take 2 {} [] [2] [.string ((itoaT (n.tdiv 10)) ++ (strOf [48 + (n.tmod 10)]))] (by kernel_rfl) trivial (fun w33 hS34 => QB.mk (.cons (show (itoaT (n.tdiv 10)).size + (strOf [48 + (n.tmod 10)]).size ≤ 9223372036854775807 from by omega) .nil) (by kernel_rfl)) (fun b35 => ?_)
        refine HOPS.nil (QN.n ?_)
        refine HT.done (by kernel_rfl) ?_
        refine thn_n ?_
        refine WP.ret ?_
        refine bodyQ.of _ rfl [.string ((itoaT (n.tdiv 10)) ++ (strOf [48 + (n.tmod 10)]))] ⟨rfl, trivial⟩ ?_
        exact ⟨by simp only [pack]; rw [show (itoaT (n.tdiv 10)) ++ (strOf [48 + (n.tmod 10)]) = itoaT n from dec_ten (by omega) (by omega)], hp29.fr⟩
      refine AllR.cons _ rfl ?_ AllR.nil
      refine (opStep.buildSlice (E := 5) hp18 [.int .u8 (48 + (n.tmod 10))] (by kernel_rfl) (fun g38 w36 hp37 => ?_))
      refine ⟨.inr trivial, ?_⟩
      refine HT.br (n := 3) [2, 8] (by kernel_rfl) (by simp) ?_
      refine AllR.cons _ rfl ?_ ?_
      · refine (opStep.call (some 18) [.int .i64 (n.tdiv 10)] (by kernel_rfl) ((ihB (by omega) _)) ?_)
        rintro _ w41 ⟨rfl, hf42⟩
        refine ⟨_, rfl, ?_⟩
        have hp43 := hp37.step hf42
        refine ⟨.inr trivial, ?_⟩
        refine HT.br (n := 2) [8] (by kernel_rfl) (by simp) ?_
        refine AllR.cons _ rfl ?_ AllR.nil
        refine (opStep.bytesStr (by kernel_rfl) (by kernel_rfl) (show Bs Tryd.prog w41 (.slice (some ⟨g38, 0, none⟩) 1 1) (.string (strOf [48 + (n.tmod 10)])) from Bs.of (show SlR w41 (some ⟨g38, 0, none⟩) 1 (List.flatMap u8c [48 + (n.tmod 10)]) from SlR.row (n := 1) hp43.get0 rfl) rfl) ?_)
        refine ⟨.inr trivial, ?_⟩
        refine HT.pre (l := [(9, true), (10, true)]) (n := 0) (by kernel_rfl) ?_
        refine HOPS.take 2 {} [] [2] [.string ((itoaT (n.tdiv 10)) ++ (strOf [48 + (n.tmod 10)]))] (by kernel_rfl) trivial (fun w46 hS47 => QB.mk (.cons (show (itoaT (n.tdiv 10)).size + (strOf [48 + (n.tmod 10)]).size ≤ 9223372036854775807 from by omega) .nil) (by kernel_rfl)) (fun b48 => ?_)
        refine HOPS.nil (QN.n ?_)
        refine HT.done (by kernel_rfl) ?_
        refine thn_n ?_
        refine WP.ret ?_
        refine bodyQ.of _ rfl [.string ((itoaT (n.tdiv 10)) ++ (strOf [48 + (n.tmod 10)]))] ⟨rfl, trivial⟩ ?_
        exact ⟨by simp only [pack]; rw [show (itoaT (n.tdiv 10)) ++ (strOf [48 + (n.tmod 10)]) = itoaT n from dec_ten (by omega) (by omega)], hp43.fr⟩
      refine AllR.cons _ rfl ?_ AllR.nil
      refine (opStep.bytesStr (by kernel_rfl) (by kernel_rfl) (show Bs Tryd.prog w36 (.slice (some ⟨g38, 0, none⟩) 1 1) (.string (strOf [48 + (n.tmod 10)])) from Bs.of (show SlR w36 (some ⟨g38, 0, none⟩) 1 (List.flatMap u8c [48 + (n.tmod 10)]) from SlR.row (n := 1) hp37.get0 rfl) rfl) ?_)
      refine ⟨.inr trivial, ?_⟩
      refine HT.br (n := 2) [2] (by kernel_rfl) (by simp) ?_
      refine AllR.cons _ rfl ?_ AllR.nil
      refine (opStep.call (some 18) [.int .i64 (n.tdiv 10)] (by kernel_rfl) ((ihB (by omega) _)) ?_)
      rintro _ w53 ⟨rfl, hf54⟩
      refine ⟨_, rfl, ?_⟩
      have hp55 := hp37.step hf54
      refine ⟨.inr trivial, ?_⟩
      refine HT.pre (l := [(9, true), (10, true)]) (n := 0) (by kernel_rfl) ?_
      refine HOPS.take 2 {} [] [2] [.string ((itoaT (n.tdiv 10)) ++ (strOf [48 + (n.tmod 10)]))] (by kernel_rfl) trivial (fun w56 hS57 => QB.mk (.cons (show (itoaT (n.tdiv 10)).size + (strOf [48 + (n.tmod 10)]).size ≤ 9223372036854775807 from by omega) .nil) (by kernel_rfl)) (fun b58 => ?_)
      refine HOPS.nil (QN.n ?_)
      refine HT.done (by kernel_rfl) ?_
      refine thn_n ?_
      refine WP.ret ?_
      refine bodyQ.of _ rfl [.string ((itoaT (n.tdiv 10)) ++ (strOf [48 + (n.tmod 10)]))] ⟨rfl, trivial⟩ ?_
      exact ⟨by simp only [pack]; rw [show (itoaT (n.tdiv 10)) ++ (strOf [48 + (n.tmod 10)]) = itoaT n from dec_ten (by omega) (by omega)], hp55.fr⟩

theorem dec_c : ∀ (k : Nat) (n : Int) (w : World), n.toNat * 2 + (-n).toNat * 2 + (if n < 0 then 1 else 0) ≤ k → -1000000000 ≤ n → n ≤ 1000000000 → Calls Tryd.prog 24 #[.int .i64 n] w (fun r_ w' => r_ = .returned (.string (itoaT n)) ∧ Fram Non w w') := by
  intro k
  induction k using Nat.strongRecOn with
  | _ k ih =>
    intro n w hk h0 h1
    refine dec_step n h0 h1 w (fun hn w' => ?_) (fun hn w' => ?_)
    · rw [if_pos hn] at hk
      exact ih ((-n).toNat * 2 + (-(-n)).toNat * 2 + (if -n < 0 then 1 else 0)) (by rw [if_neg (by omega)]; omega) (-n) w' (Nat.le_refl _) (by omega) (by omega)
    · have td : n.tdiv 10 = n / 10 := Int.tdiv_eq_ediv_of_nonneg (by omega)
      rw [if_neg (by omega)] at hk
      exact ih ((n.tdiv 10).toNat * 2 + (-(n.tdiv 10)).toNat * 2 + (if n.tdiv 10 < 0 then 1 else 0)) (by rw [if_neg (by omega)]; omega) (n.tdiv 10) w' (Nat.le_refl _) (by omega) (by omega)
end Go.Proofs.YtpmcjhjlajmljaaDoorRRRR.K
