/- The walks of WScriptConfigs: what each function computes. -/
import Derived.Test.YtpmcjhjlajmljaaDoorRRRRProg
import Derived.Test.YtpmcjhjlajmljaaDoorRRRRCoreO
import Derived.Test.YtpmcjhjlajmljaaDoorRRRRCfgD
import Derived.Test.YtpmcjhjlajmljaaDoorRRRROpen
namespace Go.Proofs.YtpmcjhjlajmljaaDoorRRRR.K
open Go Go.Proofs Go.RowKit
set_option linter.unusedVariables false
set_option linter.unusedSimpArgs false
set_option maxRecDepth 20000
set_option maxHeartbeats 4000000

theorem szcf : (⟨#[99, 111, 110, 102, 105, 103, 32]⟩ : ByteArray).size = 7 := rfl
theorem szc2 : (⟨#[99, 111, 110, 102, 105, 103, 32, 51, 32, 49, 32, 48, 32, 50]⟩ : ByteArray).size = 14 := rfl
theorem ScriptConfigs (c : GConfig) (clients : Int) (behind : ByteArray) (hb : behind.size ≤ 1048576) (w : World) (hl : LibP w) :
    Calls Tryd.prog 5 #[GConfig.val c, .int .i64 clients, .string behind] w (fun x w' => x = .returned (.bool true) ∧ Fram Non w w') := by
  have ta1 := Int.lt_tmod_of_pos c.N (show (0 : Int) < 1000000 by omega)
  have ta2 := Int.tmod_lt_of_pos c.N (show (0 : Int) < 1000000 by omega)
  have za := itoaT_size (n := (c.N.tmod 1000000)) (by omega) (by omega)
  have tb1 := Int.lt_tmod_of_pos c.K (show (0 : Int) < 1000000 by omega)
  have tb2 := Int.tmod_lt_of_pos c.K (show (0 : Int) < 1000000 by omega)
  have zb := itoaT_size (n := (c.K.tmod 1000000)) (by omega) (by omega)
  have tc1 := Int.lt_tmod_of_pos c.Delta (show (0 : Int) < 1000000 by omega)
  have tc2 := Int.tmod_lt_of_pos c.Delta (show (0 : Int) < 1000000 by omega)
  have zc := itoaT_size (n := (c.Delta.tmod 1000000)) (by omega) (by omega)
  have td1 := Int.lt_tmod_of_pos clients (show (0 : Int) < 1000000 by omega)
  have td2 := Int.tmod_lt_of_pos clients (show (0 : Int) < 1000000 by omega)
  have zd := itoaT_size (n := (clients.tmod 1000000)) (by omega) (by omega)
  refine calls_of Tryd.func5 rfl 145 rfl (by simp) ?_
  have hp0 := Hp.init w
  have he0 : List.map (env0 [GConfig.val c, .int .i64 clients, .string behind]) [0, 1, 2] = [GConfig.val c, .int .i64 clients, .string behind] := by kernel_rfl
  obtain ⟨b0, he0⟩ := toMk he0
  rw [he0]
  clear he0
  refine WP.seq ?_
  refine WP.region _ rfl (by kernel_rfl) ?_
  refine OPS.cons (opStep.box hp0 [.int .i64 c.N, .int .i64 c.K, .int .i64 c.Delta] (by kernel_rfl) (fun g3 w1 hp2 => ?_))
  refine OPS.batch 1 {} [] [1, 2, 3] [.int .i64 clients, .string behind, .pointer (some ⟨g3, 0, none⟩)] .nil (by kernel_rfl) (fun b4 => ?_)
  refine OPS.nil ?_
  refine thn_n ?_
  refine WP.seq ?_
  refine WP.region _ rfl (by kernel_rfl) ?_
  refine OPS.batch 4 {} [.int .i64 c.N] [1, 2, 3, 17, 18] [.int .i64 clients, .string behind, .pointer (some ⟨g3, 0, none⟩), .int .i64 (c.N.tmod 1000000), .pointer (some ⟨g3, 0, none⟩)] (.cons (Ld.row1 (P := Tryd.prog) (t := 3) (o := 0) (v := .int .i64 c.N) hp2.get0 (by kernel_rfl)) (.cons (show (1000000 : Int) ≠ 0 from by first | omega | (simp only [ByteArray.size_append, sz32, szcf, szc2]; omega)) .nil)) (by kernel_rfl) (fun b5 => ?_)
  refine OPS.cons (opStep.store0 hp2 rfl [.int .i64 (c.N.tmod 1000000)] [.int .i64 (c.N.tmod 1000000), .int .i64 c.K, .int .i64 c.Delta] (by kernel_rfl) (fun w6 hp7 => ?_))
  refine OPS.nil ?_
  refine thn_n ?_
  refine WP.seq ?_
  refine WP.region _ rfl (by kernel_rfl) ?_
  refine OPS.batch 4 {} [.int .i64 c.K] [1, 2, 3, 21, 22] [.int .i64 clients, .string behind, .pointer (some ⟨g3, 0, none⟩), .int .i64 (c.K.tmod 1000000), .pointer (some ⟨g3, 1, none⟩)] (.cons (Ld.row1 (P := Tryd.prog) (t := 3) (o := 1) (v := .int .i64 c.K) hp7.get0 (by kernel_rfl)) (.cons (show (1000000 : Int) ≠ 0 from by first | omega | (simp only [ByteArray.size_append, sz32, szcf, szc2]; omega)) .nil)) (by kernel_rfl) (fun b8 => ?_)
  refine OPS.cons (opStep.store0 hp7 rfl [.int .i64 (c.K.tmod 1000000)] [.int .i64 (c.N.tmod 1000000), .int .i64 (c.K.tmod 1000000), .int .i64 c.Delta] (by kernel_rfl) (fun w9 hp10 => ?_))
  refine OPS.nil ?_
  refine thn_n ?_
  refine WP.seq ?_
  refine WP.region _ rfl (by kernel_rfl) ?_
  refine OPS.batch 4 {} [.int .i64 c.Delta] [1, 2, 3, 25, 26] [.int .i64 clients, .string behind, .pointer (some ⟨g3, 0, none⟩), .int .i64 (c.Delta.tmod 1000000), .pointer (some ⟨g3, 2, none⟩)] (.cons (Ld.row1 (P := Tryd.prog) (t := 3) (o := 2) (v := .int .i64 c.Delta) hp10.get0 (by kernel_rfl)) (.cons (show (1000000 : Int) ≠ 0 from by first | omega | (simp only [ByteArray.size_append, sz32, szcf, szc2]; omega)) .nil)) (by kernel_rfl) (fun b11 => ?_)
  refine OPS.cons (opStep.store0 hp10 rfl [.int .i64 (c.Delta.tmod 1000000)] [.int .i64 (c.N.tmod 1000000), .int .i64 (c.K.tmod 1000000), .int .i64 (c.Delta.tmod 1000000)] (by kernel_rfl) (fun w12 hp13 => ?_))
  refine OPS.nil ?_
  refine thn_n ?_
  refine WP.seq ?_
  refine WP.pure {} [] [1, 2, 3] [.int .i64 (clients.tmod 1000000), .string behind, .pointer (some ⟨g3, 0, none⟩)] (.cons (show (1000000 : Int) ≠ 0 from by first | omega | (simp only [ByteArray.size_append, sz32, szcf, szc2]; omega)) .nil) (by kernel_rfl) (fun b14 => ?_)
  refine thn_n ?_
  refine WP.seq ?_
  have hp17 := hp13.drew
  refine WP.quiet (fun w15 => Hp w Non [Res.row g3 [.int .i64 (c.N.tmod 1000000), .int .i64 (c.K.tmod 1000000), .int .i64 (c.Delta.tmod 1000000)] 40] w15) (by kernel_rfl) hp17 ?_
  have hnehp17 : ∃ wz_, (fun w15 => Hp w Non [Res.row g3 [.int .i64 (c.N.tmod 1000000), .int .i64 (c.K.tmod 1000000), .int .i64 (c.Delta.tmod 1000000)] 40] w15) wz_ := ⟨_, hp17⟩
  refine QOPS.batch 2 {} [.int .i64 (c.N.tmod 1000000)] [1, 2, 3, 30] [.int .i64 (clients.tmod 1000000), .string behind, .pointer (some ⟨g3, 0, none⟩), .int .i64 (c.N.tmod 1000000)] hnehp17 (fun w18 hp19 => QB.mk (.cons (Ld.row1 (P := Tryd.prog) (t := 3) (o := 0) (v := .int .i64 (c.N.tmod 1000000)) hp19.get0 (by kernel_rfl)) .nil) (by kernel_rfl)) (fun b20 => ?_)
  refine QOPS.call (some 31) [.int .i64 (c.N.tmod 1000000)] (by kernel_rfl) (fun w21 hp22 => (dec_c _ (c.N.tmod 1000000) _ (Nat.le_refl _) (by omega) (by omega)).mono fun _ _ h => ⟨h.1, hp22.step h.2⟩) ?_
  refine QOPS.batch 4 {} [.int .i64 (c.K.tmod 1000000)] [1, 2, 3, 33, 35] [.int .i64 (clients.tmod 1000000), .string behind, .pointer (some ⟨g3, 0, none⟩), .string (((⟨#[99, 111, 110, 102, 105, 103, 32]⟩ : ByteArray) ++ (itoaT (c.N.tmod 1000000))) ++ (⟨#[32]⟩ : ByteArray)), .int .i64 (c.K.tmod 1000000)] hnehp17 (fun w23 hp24 => QB.mk (.cons (show (⟨#[99, 111, 110, 102, 105, 103, 32]⟩ : ByteArray).size + (itoaT (c.N.tmod 1000000)).size ≤ 9223372036854775807 from by first | omega | (simp only [ByteArray.size_append, sz32, szcf, szc2]; omega)) (.cons (show ((⟨#[99, 111, 110, 102, 105, 103, 32]⟩ : ByteArray) ++ (itoaT (c.N.tmod 1000000))).size + (⟨#[32]⟩ : ByteArray).size ≤ 9223372036854775807 from by first | omega | (simp only [ByteArray.size_append, sz32, szcf, szc2]; omega)) (.cons (Ld.row1 (P := Tryd.prog) (t := 3) (o := 1) (v := .int .i64 (c.K.tmod 1000000)) hp24.get0 (by kernel_rfl)) .nil))) (by kernel_rfl)) (fun b25 => ?_)
  refine QOPS.call (some 36) [.int .i64 (c.K.tmod 1000000)] (by kernel_rfl) (fun w26 hp27 => (dec_c _ (c.K.tmod 1000000) _ (Nat.le_refl _) (by omega) (by omega)).mono fun _ _ h => ⟨h.1, hp27.step h.2⟩) ?_
  refine QOPS.batch 4 {} [.int .i64 (c.Delta.tmod 1000000)] [1, 2, 3, 38, 40] [.int .i64 (clients.tmod 1000000), .string behind, .pointer (some ⟨g3, 0, none⟩), .string (((((⟨#[99, 111, 110, 102, 105, 103, 32]⟩ : ByteArray) ++ (itoaT (c.N.tmod 1000000))) ++ (⟨#[32]⟩ : ByteArray)) ++ (itoaT (c.K.tmod 1000000))) ++ (⟨#[32]⟩ : ByteArray)), .int .i64 (c.Delta.tmod 1000000)] hnehp17 (fun w28 hp29 => QB.mk (.cons (show (((⟨#[99, 111, 110, 102, 105, 103, 32]⟩ : ByteArray) ++ (itoaT (c.N.tmod 1000000))) ++ (⟨#[32]⟩ : ByteArray)).size + (itoaT (c.K.tmod 1000000)).size ≤ 9223372036854775807 from by first | omega | (simp only [ByteArray.size_append, sz32, szcf, szc2]; omega)) (.cons (show ((((⟨#[99, 111, 110, 102, 105, 103, 32]⟩ : ByteArray) ++ (itoaT (c.N.tmod 1000000))) ++ (⟨#[32]⟩ : ByteArray)) ++ (itoaT (c.K.tmod 1000000))).size + (⟨#[32]⟩ : ByteArray).size ≤ 9223372036854775807 from by first | omega | (simp only [ByteArray.size_append, sz32, szcf, szc2]; omega)) (.cons (Ld.row1 (P := Tryd.prog) (t := 3) (o := 2) (v := .int .i64 (c.Delta.tmod 1000000)) hp29.get0 (by kernel_rfl)) .nil))) (by kernel_rfl)) (fun b30 => ?_)
  refine QOPS.call (some 41) [.int .i64 (c.Delta.tmod 1000000)] (by kernel_rfl) (fun w31 hp32 => (dec_c _ (c.Delta.tmod 1000000) _ (Nat.le_refl _) (by omega) (by omega)).mono fun _ _ h => ⟨h.1, hp32.step h.2⟩) ?_
  refine QOPS.batch 3 {} [] [1, 2, 3, 43, 44] [.int .i64 (clients.tmod 1000000), .string behind, .pointer (some ⟨g3, 0, none⟩), .string (((((((⟨#[99, 111, 110, 102, 105, 103, 32]⟩ : ByteArray) ++ (itoaT (c.N.tmod 1000000))) ++ (⟨#[32]⟩ : ByteArray)) ++ (itoaT (c.K.tmod 1000000))) ++ (⟨#[32]⟩ : ByteArray)) ++ (itoaT (c.Delta.tmod 1000000))) ++ (⟨#[32]⟩ : ByteArray)), .int .i64 (clients.tmod 1000000)] hnehp17 (fun w33 hp34 => QB.mk (.cons (show (((((⟨#[99, 111, 110, 102, 105, 103, 32]⟩ : ByteArray) ++ (itoaT (c.N.tmod 1000000))) ++ (⟨#[32]⟩ : ByteArray)) ++ (itoaT (c.K.tmod 1000000))) ++ (⟨#[32]⟩ : ByteArray)).size + (itoaT (c.Delta.tmod 1000000)).size ≤ 9223372036854775807 from by first | omega | (simp only [ByteArray.size_append, sz32, szcf, szc2]; omega)) (.cons (show ((((((⟨#[99, 111, 110, 102, 105, 103, 32]⟩ : ByteArray) ++ (itoaT (c.N.tmod 1000000))) ++ (⟨#[32]⟩ : ByteArray)) ++ (itoaT (c.K.tmod 1000000))) ++ (⟨#[32]⟩ : ByteArray)) ++ (itoaT (c.Delta.tmod 1000000))).size + (⟨#[32]⟩ : ByteArray).size ≤ 9223372036854775807 from by first | omega | (simp only [ByteArray.size_append, sz32, szcf, szc2]; omega)) .nil)) (by kernel_rfl)) (fun b35 => ?_)
  refine QOPS.call (some 45) [.int .i64 (clients.tmod 1000000)] (by kernel_rfl) (fun w36 hp37 => (dec_c _ (clients.tmod 1000000) _ (Nat.le_refl _) (by omega) (by omega)).mono fun _ _ h => ⟨h.1, hp37.step h.2⟩) ?_
  refine QOPS.batch 2 {} [] [1, 2, 3, 7] [.int .i64 (clients.tmod 1000000), .string behind, .pointer (some ⟨g3, 0, none⟩), .string ((((((((⟨#[99, 111, 110, 102, 105, 103, 32]⟩ : ByteArray) ++ (itoaT (c.N.tmod 1000000))) ++ (⟨#[32]⟩ : ByteArray)) ++ (itoaT (c.K.tmod 1000000))) ++ (⟨#[32]⟩ : ByteArray)) ++ (itoaT (c.Delta.tmod 1000000))) ++ (⟨#[32]⟩ : ByteArray)) ++ (itoaT (clients.tmod 1000000)))] hnehp17 (fun w38 hp39 => QB.mk (.cons (show (((((((⟨#[99, 111, 110, 102, 105, 103, 32]⟩ : ByteArray) ++ (itoaT (c.N.tmod 1000000))) ++ (⟨#[32]⟩ : ByteArray)) ++ (itoaT (c.K.tmod 1000000))) ++ (⟨#[32]⟩ : ByteArray)) ++ (itoaT (c.Delta.tmod 1000000))) ++ (⟨#[32]⟩ : ByteArray)).size + (itoaT (clients.tmod 1000000)).size ≤ 9223372036854775807 from by first | omega | (simp only [ByteArray.size_append, sz32, szcf, szc2]; omega)) .nil) (by kernel_rfl)) (fun b40 => ?_)
  refine QOPS.nil (fun w41 hp42 => ?_)
  refine thn_n ?_
  refine WP.seq ?_
  refine WP.region _ rfl (by kernel_rfl) ?_
  refine OPS.batch 1 {} [] [1, 2, 3, 7, 48] [.int .i64 (clients.tmod 1000000), .string behind, .pointer (some ⟨g3, 0, none⟩), .string ((((((((⟨#[99, 111, 110, 102, 105, 103, 32]⟩ : ByteArray) ++ (itoaT (c.N.tmod 1000000))) ++ (⟨#[32]⟩ : ByteArray)) ++ (itoaT (c.K.tmod 1000000))) ++ (⟨#[32]⟩ : ByteArray)) ++ (itoaT (c.Delta.tmod 1000000))) ++ (⟨#[32]⟩ : ByteArray)) ++ (itoaT (clients.tmod 1000000))), .string ((((((((⟨#[99, 111, 110, 102, 105, 103, 32]⟩ : ByteArray) ++ (itoaT (c.N.tmod 1000000))) ++ (⟨#[32]⟩ : ByteArray)) ++ (itoaT (c.K.tmod 1000000))) ++ (⟨#[32]⟩ : ByteArray)) ++ (itoaT (c.Delta.tmod 1000000))) ++ (⟨#[32]⟩ : ByteArray)) ++ (itoaT (clients.tmod 1000000)))] .nil (by kernel_rfl) (fun b43 => ?_)
  refine OPS.cons (opStep.call (some 49) [.string ((((((((⟨#[99, 111, 110, 102, 105, 103, 32]⟩ : ByteArray) ++ (itoaT (c.N.tmod 1000000))) ++ (⟨#[32]⟩ : ByteArray)) ++ (itoaT (c.K.tmod 1000000))) ++ (⟨#[32]⟩ : ByteArray)) ++ (itoaT (c.Delta.tmod 1000000))) ++ (⟨#[32]⟩ : ByteArray)) ++ (itoaT (clients.tmod 1000000)))] (by kernel_rfl) (sc_Config ((((((((⟨#[99, 111, 110, 102, 105, 103, 32]⟩ : ByteArray) ++ (itoaT (c.N.tmod 1000000))) ++ (⟨#[32]⟩ : ByteArray)) ++ (itoaT (c.K.tmod 1000000))) ++ (⟨#[32]⟩ : ByteArray)) ++ (itoaT (c.Delta.tmod 1000000))) ++ (⟨#[32]⟩ : ByteArray)) ++ (itoaT (clients.tmod 1000000))) (by first | omega | (simp only [ByteArray.size_append, sz32, szcf, szc2]; omega)) _ (hl.fram hp42.fr)) ?_)
  rintro _ w46 ⟨cc49, nc50, ec51, rfl, hc52, hf47⟩
  refine ⟨_, rfl, ?_⟩
  have hp48 := hp42.step hf47
  refine OPS.batch 4 {} [] [1, 2, 3, 7, 50, 51, 52] [.int .i64 (clients.tmod 1000000), .string behind, .pointer (some ⟨g3, 0, none⟩), .string ((((((((⟨#[99, 111, 110, 102, 105, 103, 32]⟩ : ByteArray) ++ (itoaT (c.N.tmod 1000000))) ++ (⟨#[32]⟩ : ByteArray)) ++ (itoaT (c.K.tmod 1000000))) ++ (⟨#[32]⟩ : ByteArray)) ++ (itoaT (c.Delta.tmod 1000000))) ++ (⟨#[32]⟩ : ByteArray)) ++ (itoaT (clients.tmod 1000000))), GConfig.val cc49, .int .i64 nc50, .int .i64 ec51] .nil (by kernel_rfl) (fun b53 => ?_)
  refine OPS.cons (opStep.alloc hp48 [.int .i64 0, .int .i64 0, .int .i64 0] (by kernel_rfl) (fun g56 w54 hp55 => ?_))
  refine OPS.cons (opStep.store0 hp55 rfl [.int .i64 cc49.N, .int .i64 cc49.K, .int .i64 cc49.Delta] [.int .i64 cc49.N, .int .i64 cc49.K, .int .i64 cc49.Delta] (by kernel_rfl) (fun w57 hp58 => ?_))
  refine OPS.batch 2 {} [] [1, 2, 3, 7, 8, 9, 10] [.int .i64 (clients.tmod 1000000), .string behind, .pointer (some ⟨g3, 0, none⟩), .string ((((((((⟨#[99, 111, 110, 102, 105, 103, 32]⟩ : ByteArray) ++ (itoaT (c.N.tmod 1000000))) ++ (⟨#[32]⟩ : ByteArray)) ++ (itoaT (c.K.tmod 1000000))) ++ (⟨#[32]⟩ : ByteArray)) ++ (itoaT (c.Delta.tmod 1000000))) ++ (⟨#[32]⟩ : ByteArray)) ++ (itoaT (clients.tmod 1000000))), .pointer (some ⟨g56, 0, none⟩), .int .i64 nc50, .int .i64 ec51] .nil (by kernel_rfl) (fun b59 => ?_)
  refine OPS.nil ?_
  refine thn_n ?_
  refine WP.seq ?_
  refine WP.block ?_
  refine WP.seq ?_
  refine WP.region _ rfl (by kernel_rfl) ?_
  refine OPS.batch 1 {} [.agg #[.int .i64 (c.N.tmod 1000000), .int .i64 (c.K.tmod 1000000), .int .i64 (c.Delta.tmod 1000000)]] [1, 2, 3, 7, 8, 9, 10, 54] [.int .i64 (clients.tmod 1000000), .string behind, .pointer (some ⟨g3, 0, none⟩), .string ((((((((⟨#[99, 111, 110, 102, 105, 103, 32]⟩ : ByteArray) ++ (itoaT (c.N.tmod 1000000))) ++ (⟨#[32]⟩ : ByteArray)) ++ (itoaT (c.K.tmod 1000000))) ++ (⟨#[32]⟩ : ByteArray)) ++ (itoaT (c.Delta.tmod 1000000))) ++ (⟨#[32]⟩ : ByteArray)) ++ (itoaT (clients.tmod 1000000))), .pointer (some ⟨g56, 0, none⟩), .int .i64 nc50, .int .i64 ec51, .agg #[.int .i64 (c.N.tmod 1000000), .int .i64 (c.K.tmod 1000000), .int .i64 (c.Delta.tmod 1000000)]] (.cons (show Ld Tryd.prog w57 40 ⟨g3, 0, none⟩ (.agg #[.int .i64 (c.N.tmod 1000000), .int .i64 (c.K.tmod 1000000), .int .i64 (c.Delta.tmod 1000000)]) from Ld.rowN (cs := [.int .i64 (c.N.tmod 1000000), .int .i64 (c.K.tmod 1000000), .int .i64 (c.Delta.tmod 1000000)]) hp58.get1 (by kernel_rfl)) .nil) (by kernel_rfl) (fun b60 => ?_)
  refine OPS.cons (opStep.call (some 55) [.agg #[.int .i64 (c.N.tmod 1000000), .int .i64 (c.K.tmod 1000000), .int .i64 (c.Delta.tmod 1000000)]] (by kernel_rfl) (q_Check (⟨c.N.tmod 1000000, c.K.tmod 1000000, c.Delta.tmod 1000000⟩ : GConfig) _) ?_)
  rintro _ w63 ⟨rfl, hf64⟩
  refine ⟨_, rfl, ?_⟩
  have hp65 := hp58.step hf64
  refine OPS.batch 2 {} [] [1, 2, 3, 7, 8, 9, 10, 53] [.int .i64 (clients.tmod 1000000), .string behind, .pointer (some ⟨g3, 0, none⟩), .string ((((((((⟨#[99, 111, 110, 102, 105, 103, 32]⟩ : ByteArray) ++ (itoaT (c.N.tmod 1000000))) ++ (⟨#[32]⟩ : ByteArray)) ++ (itoaT (c.K.tmod 1000000))) ++ (⟨#[32]⟩ : ByteArray)) ++ (itoaT (c.Delta.tmod 1000000))) ++ (⟨#[32]⟩ : ByteArray)) ++ (itoaT (clients.tmod 1000000))), .pointer (some ⟨g56, 0, none⟩), .int .i64 nc50, .int .i64 ec51, .bool (decide (¬ ((qChk (⟨c.N.tmod 1000000, c.K.tmod 1000000, c.Delta.tmod 1000000⟩ : GConfig)) = 0)))] .nil (by kernel_rfl) (fun b66 => ?_)
  refine OPS.nil ?_
  refine thn_n ?_
  refine WP.test (p := ¬ ((qChk (⟨c.N.tmod 1000000, c.K.tmod 1000000, c.Delta.tmod 1000000⟩ : GConfig)) = 0)) rfl Bp.dec (fun h67 => ?_) (fun h67 => ?_)
  · refine WP.cut (fun e82 w83 => ∃ (x80 : Bool), (True) ∧ Bp x80 (((¬ (ec51 = 40))) ∨ ((ec51 = 40) ∧ (¬ ((cc49.N = 0) ∧ ((cc49.K = 0) ∧ (cc49.Delta = 0))))) ∨ ((ec51 = 40) ∧ ((cc49.N = 0) ∧ ((cc49.K = 0) ∧ (cc49.Delta = 0))) ∧ (¬ (nc50 = 0)))) ∧ List.map e82 [2, 7, 67] = [.string behind, .string ((((((((⟨#[99, 111, 110, 102, 105, 103, 32]⟩ : ByteArray) ++ (itoaT (c.N.tmod 1000000))) ++ (⟨#[32]⟩ : ByteArray)) ++ (itoaT (c.K.tmod 1000000))) ++ (⟨#[32]⟩ : ByteArray)) ++ (itoaT (c.Delta.tmod 1000000))) ++ (⟨#[32]⟩ : ByteArray)) ++ (itoaT (clients.tmod 1000000))), .bool x80] ∧ Hp w Non [Res.row g56 [.int .i64 cc49.N, .int .i64 cc49.K, .int .i64 cc49.Delta] 40, Res.row g3 [.int .i64 (c.N.tmod 1000000), .int .i64 (c.K.tmod 1000000), .int .i64 (c.Delta.tmod 1000000)] 40] w83) ?_ ?_
    · refine WP.region _ rfl (by kernel_rfl) ?_
      refine OPS.batch 3 {} [] [2, 7, 8, 9, 59] [.string behind, .string ((((((((⟨#[99, 111, 110, 102, 105, 103, 32]⟩ : ByteArray) ++ (itoaT (c.N.tmod 1000000))) ++ (⟨#[32]⟩ : ByteArray)) ++ (itoaT (c.K.tmod 1000000))) ++ (⟨#[32]⟩ : ByteArray)) ++ (itoaT (c.Delta.tmod 1000000))) ++ (⟨#[32]⟩ : ByteArray)) ++ (itoaT (clients.tmod 1000000))), .pointer (some ⟨g56, 0, none⟩), .int .i64 nc50, .bool (decide (¬ (ec51 = 40)))] .nil (by kernel_rfl) (fun b69 => ?_)
      by_cases h70 : ec51 = 40
      · refine OPS.batch 0 {} [] [2, 7, 8, 9, 59] [.string behind, .string ((((((((⟨#[99, 111, 110, 102, 105, 103, 32]⟩ : ByteArray) ++ (itoaT (c.N.tmod 1000000))) ++ (⟨#[32]⟩ : ByteArray)) ++ (itoaT (c.K.tmod 1000000))) ++ (⟨#[32]⟩ : ByteArray)) ++ (itoaT (c.Delta.tmod 1000000))) ++ (⟨#[32]⟩ : ByteArray)) ++ (itoaT (clients.tmod 1000000))), .pointer (some ⟨g56, 0, none⟩), .int .i64 nc50, .bool (decide (¬ (ec51 = 40)))] .nil (by kernel_rfl) (fun b73 => ?_)
        refine OPS.re [.string behind, .string ((((((((⟨#[99, 111, 110, 102, 105, 103, 32]⟩ : ByteArray) ++ (itoaT (c.N.tmod 1000000))) ++ (⟨#[32]⟩ : ByteArray)) ++ (itoaT (c.K.tmod 1000000))) ++ (⟨#[32]⟩ : ByteArray)) ++ (itoaT (c.Delta.tmod 1000000))) ++ (⟨#[32]⟩ : ByteArray)) ++ (itoaT (clients.tmod 1000000))), .pointer (some ⟨g56, 0, none⟩), .int .i64 nc50, .bool false] (by rw [show (decide (¬ (ec51 = 40))) = false from Bp.dec.ff (fun k => k h70)]) ?_
        refine OPS.batch 5 { wraps := [63] } [GConfig.val cc49] [2, 7, 9, 64] [.string behind, .string ((((((((⟨#[99, 111, 110, 102, 105, 103, 32]⟩ : ByteArray) ++ (itoaT (c.N.tmod 1000000))) ++ (⟨#[32]⟩ : ByteArray)) ++ (itoaT (c.K.tmod 1000000))) ++ (⟨#[32]⟩ : ByteArray)) ++ (itoaT (c.Delta.tmod 1000000))) ++ (⟨#[32]⟩ : ByteArray)) ++ (itoaT (clients.tmod 1000000))), .int .i64 nc50, .bool (!((decide (cc49.N = 0)) && ((decide (cc49.K = 0)) && ((decide (cc49.Delta = 0)) && true))))] (.cons (show Ld Tryd.prog w63 40 ⟨g56, 0, none⟩ (GConfig.val cc49) from Ld.rowN (cs := [.int .i64 cc49.N, .int .i64 cc49.K, .int .i64 cc49.Delta]) hp65.get0 (by kernel_rfl)) .nil) (by kernel_rfl) (fun b74 => ?_)
        by_cases h75 : (cc49.N = 0) ∧ ((cc49.K = 0) ∧ (cc49.Delta = 0))
        · refine OPS.batch 0 {} [] [2, 7, 9, 64] [.string behind, .string ((((((((⟨#[99, 111, 110, 102, 105, 103, 32]⟩ : ByteArray) ++ (itoaT (c.N.tmod 1000000))) ++ (⟨#[32]⟩ : ByteArray)) ++ (itoaT (c.K.tmod 1000000))) ++ (⟨#[32]⟩ : ByteArray)) ++ (itoaT (c.Delta.tmod 1000000))) ++ (⟨#[32]⟩ : ByteArray)) ++ (itoaT (clients.tmod 1000000))), .int .i64 nc50, .bool (!((decide (cc49.N = 0)) && ((decide (cc49.K = 0)) && ((decide (cc49.Delta = 0)) && true))))] .nil (by kernel_rfl) (fun b78 => ?_)
          refine OPS.re [.string behind, .string ((((((((⟨#[99, 111, 110, 102, 105, 103, 32]⟩ : ByteArray) ++ (itoaT (c.N.tmod 1000000))) ++ (⟨#[32]⟩ : ByteArray)) ++ (itoaT (c.K.tmod 1000000))) ++ (⟨#[32]⟩ : ByteArray)) ++ (itoaT (c.Delta.tmod 1000000))) ++ (⟨#[32]⟩ : ByteArray)) ++ (itoaT (clients.tmod 1000000))), .int .i64 nc50, .bool false] (by rw [show (!((decide (cc49.N = 0)) && ((decide (cc49.K = 0)) && ((decide (cc49.Delta = 0)) && true)))) = false from (Bp.not (Bp.band Bp.dec (Bp.band Bp.dec (Bp.band1 Bp.dec)))).ff (fun k => k h75)]) ?_
          refine OPS.batch 3 { wraps := [67] } [] [2, 7, 67] [.string behind, .string ((((((((⟨#[99, 111, 110, 102, 105, 103, 32]⟩ : ByteArray) ++ (itoaT (c.N.tmod 1000000))) ++ (⟨#[32]⟩ : ByteArray)) ++ (itoaT (c.K.tmod 1000000))) ++ (⟨#[32]⟩ : ByteArray)) ++ (itoaT (c.Delta.tmod 1000000))) ++ (⟨#[32]⟩ : ByteArray)) ++ (itoaT (clients.tmod 1000000))), .bool (decide (¬ (nc50 = 0)))] .nil (by kernel_rfl) (fun b79 => ?_)
          refine OPS.nil ?_
          refine thn_n ?_
          exact ⟨decide (¬ (nc50 = 0)), trivial, Bp.of Bp.dec (by first | (simp only [h70, h75, iff_false, false_iff, iff_true, true_iff, Classical.not_not, and_true, true_and, and_false, false_and, or_true, true_or, or_false, false_or, not_true_eq_false, not_false_eq_true, and_self, or_self, iff_self]; done) | (simp [h70, h75]; done) | simp_all), by kernel_rfl, hp65⟩
        · refine OPS.batch 0 {} [] [2, 7, 9, 64] [.string behind, .string ((((((((⟨#[99, 111, 110, 102, 105, 103, 32]⟩ : ByteArray) ++ (itoaT (c.N.tmod 1000000))) ++ (⟨#[32]⟩ : ByteArray)) ++ (itoaT (c.K.tmod 1000000))) ++ (⟨#[32]⟩ : ByteArray)) ++ (itoaT (c.Delta.tmod 1000000))) ++ (⟨#[32]⟩ : ByteArray)) ++ (itoaT (clients.tmod 1000000))), .int .i64 nc50, .bool (!((decide (cc49.N = 0)) && ((decide (cc49.K = 0)) && ((decide (cc49.Delta = 0)) && true))))] .nil (by kernel_rfl) (fun b76 => ?_)
          refine OPS.re [.string behind, .string ((((((((⟨#[99, 111, 110, 102, 105, 103, 32]⟩ : ByteArray) ++ (itoaT (c.N.tmod 1000000))) ++ (⟨#[32]⟩ : ByteArray)) ++ (itoaT (c.K.tmod 1000000))) ++ (⟨#[32]⟩ : ByteArray)) ++ (itoaT (c.Delta.tmod 1000000))) ++ (⟨#[32]⟩ : ByteArray)) ++ (itoaT (clients.tmod 1000000))), .int .i64 nc50, .bool true] (by rw [show (!((decide (cc49.N = 0)) && ((decide (cc49.K = 0)) && ((decide (cc49.Delta = 0)) && true)))) = true from (Bp.not (Bp.band Bp.dec (Bp.band Bp.dec (Bp.band1 Bp.dec)))).tt h75]) ?_
          refine OPS.batch 3 { wraps := [67] } [] [2, 7, 67] [.string behind, .string ((((((((⟨#[99, 111, 110, 102, 105, 103, 32]⟩ : ByteArray) ++ (itoaT (c.N.tmod 1000000))) ++ (⟨#[32]⟩ : ByteArray)) ++ (itoaT (c.K.tmod 1000000))) ++ (⟨#[32]⟩ : ByteArray)) ++ (itoaT (c.Delta.tmod 1000000))) ++ (⟨#[32]⟩ : ByteArray)) ++ (itoaT (clients.tmod 1000000))), .bool true] .nil (by kernel_rfl) (fun b77 => ?_)
          refine OPS.nil ?_
          refine thn_n ?_
          exact ⟨true, trivial, Bp.of Bp.t (by first | (simp only [h70, h75, iff_false, false_iff, iff_true, true_iff, Classical.not_not, and_true, true_and, and_false, false_and, or_true, true_or, or_false, false_or, not_true_eq_false, not_false_eq_true, and_self, or_self, iff_self]; done) | (simp [h70, h75]; done) | simp_all), by kernel_rfl, hp65⟩
      · refine OPS.batch 0 {} [] [2, 7, 8, 9, 59] [.string behind, .string ((((((((⟨#[99, 111, 110, 102, 105, 103, 32]⟩ : ByteArray) ++ (itoaT (c.N.tmod 1000000))) ++ (⟨#[32]⟩ : ByteArray)) ++ (itoaT (c.K.tmod 1000000))) ++ (⟨#[32]⟩ : ByteArray)) ++ (itoaT (c.Delta.tmod 1000000))) ++ (⟨#[32]⟩ : ByteArray)) ++ (itoaT (clients.tmod 1000000))), .pointer (some ⟨g56, 0, none⟩), .int .i64 nc50, .bool (decide (¬ (ec51 = 40)))] .nil (by kernel_rfl) (fun b71 => ?_)
        refine OPS.re [.string behind, .string ((((((((⟨#[99, 111, 110, 102, 105, 103, 32]⟩ : ByteArray) ++ (itoaT (c.N.tmod 1000000))) ++ (⟨#[32]⟩ : ByteArray)) ++ (itoaT (c.K.tmod 1000000))) ++ (⟨#[32]⟩ : ByteArray)) ++ (itoaT (c.Delta.tmod 1000000))) ++ (⟨#[32]⟩ : ByteArray)) ++ (itoaT (clients.tmod 1000000))), .pointer (some ⟨g56, 0, none⟩), .int .i64 nc50, .bool true] (by rw [show (decide (¬ (ec51 = 40))) = true from Bp.dec.tt h70]) ?_
        refine OPS.batch 8 { wraps := [63, 67] } [] [2, 7, 67] [.string behind, .string ((((((((⟨#[99, 111, 110, 102, 105, 103, 32]⟩ : ByteArray) ++ (itoaT (c.N.tmod 1000000))) ++ (⟨#[32]⟩ : ByteArray)) ++ (itoaT (c.K.tmod 1000000))) ++ (⟨#[32]⟩ : ByteArray)) ++ (itoaT (c.Delta.tmod 1000000))) ++ (⟨#[32]⟩ : ByteArray)) ++ (itoaT (clients.tmod 1000000))), .bool true] .nil (by kernel_rfl) (fun b72 => ?_)
        refine OPS.nil ?_
        refine thn_n ?_
        exact ⟨true, trivial, Bp.of Bp.t (by first | (simp only [h70, iff_false, false_iff, iff_true, true_iff, Classical.not_not, and_true, true_and, and_false, false_and, or_true, true_or, or_false, false_or, not_true_eq_false, not_false_eq_true, and_self, or_self, iff_self]; done) | (simp [h70]; done) | simp_all), by kernel_rfl, hp65⟩
    rintro e82 w83 ⟨x80, hd85, hb81, hE86, hp84⟩
    obtain ⟨b87, rfl⟩ := toMk hE86
    clear hE86
    clear hd85
    refine WP.test (p := ((¬ (ec51 = 40))) ∨ ((ec51 = 40) ∧ (¬ ((cc49.N = 0) ∧ ((cc49.K = 0) ∧ (cc49.Delta = 0))))) ∨ ((ec51 = 40) ∧ ((cc49.N = 0) ∧ ((cc49.K = 0) ∧ (cc49.Delta = 0))) ∧ (¬ (nc50 = 0)))) rfl hb81 (fun h88 => ?_) (fun h88 => ?_)
    · refine WP.seq ?_
      refine WP.pure {} [] [6] [.bool false] .nil (by kernel_rfl) (fun b89 => ?_)
      refine thn_n ?_
      refine WP.ret ?_
      refine blk_r ?_
      refine thn_r ?_
      refine bodyQ.of _ rfl [.bool false] ⟨rfl, trivial⟩ ?_
      exfalso
      rw [line_conf] at hc52
      obtain ⟨f1, f2, f3⟩ := ConfR.of (a := (c.N.tmod 1000000)) (b := (c.K.tmod 1000000)) (g := (c.Delta.tmod 1000000)) (d := (clients.tmod 1000000)) ⟨by omega, by omega⟩ ⟨by omega, by omega⟩ ⟨by omega, by omega⟩ ⟨by omega, by omega⟩ hc52
      have hno : ¬ okCfg ⟨(c.N.tmod 1000000), (c.K.tmod 1000000), (c.Delta.tmod 1000000)⟩ := fun q => h67 (qChk_ok q)
      obtain ⟨q1, q2, q3⟩ := f1 hno
      simp [q1, q2, q3] at h88
    · refine WP.skip ?_
      refine blk_n ?_
      refine thn_n ?_
      refine WP.seq ?_
      refine WP.region _ rfl (by kernel_rfl) ?_
      refine OPS.cons (opStep.call (some 100) [.string ⟨#[99, 111, 110, 102, 105, 103, 32, 51, 32, 49, 32, 48, 32, 50]⟩] (by kernel_rfl) (sc_Config (⟨#[99, 111, 110, 102, 105, 103, 32, 51, 32, 49, 32, 48, 32, 50]⟩ : ByteArray) (by first | omega | (simp only [ByteArray.size_append, sz32, szcf, szc2]; omega)) _ (hl.fram hp84.fr)) ?_)
      rintro _ w92 ⟨cc95, nc96, ec97, rfl, hc98, hf93⟩
      refine ⟨_, rfl, ?_⟩
      have hp94 := hp84.step hf93
      refine OPS.batch 4 {} [] [2, 7, 101, 102, 103] [.string behind, .string ((((((((⟨#[99, 111, 110, 102, 105, 103, 32]⟩ : ByteArray) ++ (itoaT (c.N.tmod 1000000))) ++ (⟨#[32]⟩ : ByteArray)) ++ (itoaT (c.K.tmod 1000000))) ++ (⟨#[32]⟩ : ByteArray)) ++ (itoaT (c.Delta.tmod 1000000))) ++ (⟨#[32]⟩ : ByteArray)) ++ (itoaT (clients.tmod 1000000))), GConfig.val cc95, .int .i64 nc96, .int .i64 ec97] .nil (by kernel_rfl) (fun b99 => ?_)
      refine OPS.cons (opStep.alloc hp94 [.int .i64 0, .int .i64 0, .int .i64 0] (by kernel_rfl) (fun g102 w100 hp101 => ?_))
      refine OPS.cons (opStep.store0 hp101 rfl [.int .i64 cc95.N, .int .i64 cc95.K, .int .i64 cc95.Delta] [.int .i64 cc95.N, .int .i64 cc95.K, .int .i64 cc95.Delta] (by kernel_rfl) (fun w103 hp104 => ?_))
      refine OPS.batch 2 {} [] [2, 7, 11, 12, 13] [.string behind, .string ((((((((⟨#[99, 111, 110, 102, 105, 103, 32]⟩ : ByteArray) ++ (itoaT (c.N.tmod 1000000))) ++ (⟨#[32]⟩ : ByteArray)) ++ (itoaT (c.K.tmod 1000000))) ++ (⟨#[32]⟩ : ByteArray)) ++ (itoaT (c.Delta.tmod 1000000))) ++ (⟨#[32]⟩ : ByteArray)) ++ (itoaT (clients.tmod 1000000))), .pointer (some ⟨g102, 0, none⟩), .int .i64 nc96, .int .i64 ec97] .nil (by kernel_rfl) (fun b105 => ?_)
      refine OPS.nil ?_
      refine thn_n ?_
      refine WP.seq ?_
      refine WP.cut (fun e120 w121 => ∃ (x118 : Bool), (True) ∧ Bp x118 (((¬ (ec97 = 0))) ∨ ((ec97 = 0) ∧ (¬ ((cc95.N = 3) ∧ ((cc95.K = 1) ∧ (cc95.Delta = 0))))) ∨ ((ec97 = 0) ∧ ((cc95.N = 3) ∧ ((cc95.K = 1) ∧ (cc95.Delta = 0))) ∧ (¬ (nc96 = 2)))) ∧ List.map e120 [2, 7, 114] = [.string behind, .string ((((((((⟨#[99, 111, 110, 102, 105, 103, 32]⟩ : ByteArray) ++ (itoaT (c.N.tmod 1000000))) ++ (⟨#[32]⟩ : ByteArray)) ++ (itoaT (c.K.tmod 1000000))) ++ (⟨#[32]⟩ : ByteArray)) ++ (itoaT (c.Delta.tmod 1000000))) ++ (⟨#[32]⟩ : ByteArray)) ++ (itoaT (clients.tmod 1000000))), .bool x118] ∧ Hp w Non [Res.row g102 [.int .i64 cc95.N, .int .i64 cc95.K, .int .i64 cc95.Delta] 40, Res.row g56 [.int .i64 cc49.N, .int .i64 cc49.K, .int .i64 cc49.Delta] 40, Res.row g3 [.int .i64 (c.N.tmod 1000000), .int .i64 (c.K.tmod 1000000), .int .i64 (c.Delta.tmod 1000000)] 40] w121) ?_ ?_
      · refine WP.region _ rfl (by kernel_rfl) ?_
        refine OPS.batch 3 {} [] [2, 7, 11, 12, 106] [.string behind, .string ((((((((⟨#[99, 111, 110, 102, 105, 103, 32]⟩ : ByteArray) ++ (itoaT (c.N.tmod 1000000))) ++ (⟨#[32]⟩ : ByteArray)) ++ (itoaT (c.K.tmod 1000000))) ++ (⟨#[32]⟩ : ByteArray)) ++ (itoaT (c.Delta.tmod 1000000))) ++ (⟨#[32]⟩ : ByteArray)) ++ (itoaT (clients.tmod 1000000))), .pointer (some ⟨g102, 0, none⟩), .int .i64 nc96, .bool (decide (¬ (ec97 = 0)))] .nil (by kernel_rfl) (fun b107 => ?_)
        by_cases h108 : ec97 = 0
        · refine OPS.batch 0 {} [] [2, 7, 11, 12, 106] [.string behind, .string ((((((((⟨#[99, 111, 110, 102, 105, 103, 32]⟩ : ByteArray) ++ (itoaT (c.N.tmod 1000000))) ++ (⟨#[32]⟩ : ByteArray)) ++ (itoaT (c.K.tmod 1000000))) ++ (⟨#[32]⟩ : ByteArray)) ++ (itoaT (c.Delta.tmod 1000000))) ++ (⟨#[32]⟩ : ByteArray)) ++ (itoaT (clients.tmod 1000000))), .pointer (some ⟨g102, 0, none⟩), .int .i64 nc96, .bool (decide (¬ (ec97 = 0)))] .nil (by kernel_rfl) (fun b111 => ?_)
          refine OPS.re [.string behind, .string ((((((((⟨#[99, 111, 110, 102, 105, 103, 32]⟩ : ByteArray) ++ (itoaT (c.N.tmod 1000000))) ++ (⟨#[32]⟩ : ByteArray)) ++ (itoaT (c.K.tmod 1000000))) ++ (⟨#[32]⟩ : ByteArray)) ++ (itoaT (c.Delta.tmod 1000000))) ++ (⟨#[32]⟩ : ByteArray)) ++ (itoaT (clients.tmod 1000000))), .pointer (some ⟨g102, 0, none⟩), .int .i64 nc96, .bool false] (by rw [show (decide (¬ (ec97 = 0))) = false from Bp.dec.ff (fun k => k h108)]) ?_
          refine OPS.batch 5 { wraps := [110] } [GConfig.val cc95] [2, 7, 12, 111] [.string behind, .string ((((((((⟨#[99, 111, 110, 102, 105, 103, 32]⟩ : ByteArray) ++ (itoaT (c.N.tmod 1000000))) ++ (⟨#[32]⟩ : ByteArray)) ++ (itoaT (c.K.tmod 1000000))) ++ (⟨#[32]⟩ : ByteArray)) ++ (itoaT (c.Delta.tmod 1000000))) ++ (⟨#[32]⟩ : ByteArray)) ++ (itoaT (clients.tmod 1000000))), .int .i64 nc96, .bool (!((decide (cc95.N = 3)) && ((decide (cc95.K = 1)) && ((decide (cc95.Delta = 0)) && true))))] (.cons (show Ld Tryd.prog w103 40 ⟨g102, 0, none⟩ (GConfig.val cc95) from Ld.rowN (cs := [.int .i64 cc95.N, .int .i64 cc95.K, .int .i64 cc95.Delta]) hp104.get0 (by kernel_rfl)) .nil) (by kernel_rfl) (fun b112 => ?_)
          by_cases h113 : (cc95.N = 3) ∧ ((cc95.K = 1) ∧ (cc95.Delta = 0))
          · refine OPS.batch 0 {} [] [2, 7, 12, 111] [.string behind, .string ((((((((⟨#[99, 111, 110, 102, 105, 103, 32]⟩ : ByteArray) ++ (itoaT (c.N.tmod 1000000))) ++ (⟨#[32]⟩ : ByteArray)) ++ (itoaT (c.K.tmod 1000000))) ++ (⟨#[32]⟩ : ByteArray)) ++ (itoaT (c.Delta.tmod 1000000))) ++ (⟨#[32]⟩ : ByteArray)) ++ (itoaT (clients.tmod 1000000))), .int .i64 nc96, .bool (!((decide (cc95.N = 3)) && ((decide (cc95.K = 1)) && ((decide (cc95.Delta = 0)) && true))))] .nil (by kernel_rfl) (fun b116 => ?_)
            refine OPS.re [.string behind, .string ((((((((⟨#[99, 111, 110, 102, 105, 103, 32]⟩ : ByteArray) ++ (itoaT (c.N.tmod 1000000))) ++ (⟨#[32]⟩ : ByteArray)) ++ (itoaT (c.K.tmod 1000000))) ++ (⟨#[32]⟩ : ByteArray)) ++ (itoaT (c.Delta.tmod 1000000))) ++ (⟨#[32]⟩ : ByteArray)) ++ (itoaT (clients.tmod 1000000))), .int .i64 nc96, .bool false] (by rw [show (!((decide (cc95.N = 3)) && ((decide (cc95.K = 1)) && ((decide (cc95.Delta = 0)) && true)))) = false from (Bp.not (Bp.band Bp.dec (Bp.band Bp.dec (Bp.band1 Bp.dec)))).ff (fun k => k h113)]) ?_
            refine OPS.batch 3 { wraps := [114] } [] [2, 7, 114] [.string behind, .string ((((((((⟨#[99, 111, 110, 102, 105, 103, 32]⟩ : ByteArray) ++ (itoaT (c.N.tmod 1000000))) ++ (⟨#[32]⟩ : ByteArray)) ++ (itoaT (c.K.tmod 1000000))) ++ (⟨#[32]⟩ : ByteArray)) ++ (itoaT (c.Delta.tmod 1000000))) ++ (⟨#[32]⟩ : ByteArray)) ++ (itoaT (clients.tmod 1000000))), .bool (decide (¬ (nc96 = 2)))] .nil (by kernel_rfl) (fun b117 => ?_)
            refine OPS.nil ?_
            refine thn_n ?_
            exact ⟨decide (¬ (nc96 = 2)), trivial, Bp.of Bp.dec (by first | (simp only [h108, h113, iff_false, false_iff, iff_true, true_iff, Classical.not_not, and_true, true_and, and_false, false_and, or_true, true_or, or_false, false_or, not_true_eq_false, not_false_eq_true, and_self, or_self, iff_self]; done) | (simp [h108, h113]; done) | simp_all), by kernel_rfl, hp104⟩
          · refine OPS.batch 0 {} [] [2, 7, 12, 111] [.string behind, .string ((((((((⟨#[99, 111, 110, 102, 105, 103, 32]⟩ : ByteArray) ++ (itoaT (c.N.tmod 1000000))) ++ (⟨#[32]⟩ : ByteArray)) ++ (itoaT (c.K.tmod 1000000))) ++ (⟨#[32]⟩ : ByteArray)) ++ (itoaT (c.Delta.tmod 1000000))) ++ (⟨#[32]⟩ : ByteArray)) ++ (itoaT (clients.tmod 1000000))), .int .i64 nc96, .bool (!((decide (cc95.N = 3)) && ((decide (cc95.K = 1)) && ((decide (cc95.Delta = 0)) && true))))] .nil (by kernel_rfl) (fun b114 => ?_)
            refine OPS.re [.string behind, .string ((((((((⟨#[99, 111, 110, 102, 105, 103, 32]⟩ : ByteArray) ++ (itoaT (c.N.tmod 1000000))) ++ (⟨#[32]⟩ : ByteArray)) ++ (itoaT (c.K.tmod 1000000))) ++ (⟨#[32]⟩ : ByteArray)) ++ (itoaT (c.Delta.tmod 1000000))) ++ (⟨#[32]⟩ : ByteArray)) ++ (itoaT (clients.tmod 1000000))), .int .i64 nc96, .bool true] (by rw [show (!((decide (cc95.N = 3)) && ((decide (cc95.K = 1)) && ((decide (cc95.Delta = 0)) && true)))) = true from (Bp.not (Bp.band Bp.dec (Bp.band Bp.dec (Bp.band1 Bp.dec)))).tt h113]) ?_
            refine OPS.batch 3 { wraps := [114] } [] [2, 7, 114] [.string behind, .string ((((((((⟨#[99, 111, 110, 102, 105, 103, 32]⟩ : ByteArray) ++ (itoaT (c.N.tmod 1000000))) ++ (⟨#[32]⟩ : ByteArray)) ++ (itoaT (c.K.tmod 1000000))) ++ (⟨#[32]⟩ : ByteArray)) ++ (itoaT (c.Delta.tmod 1000000))) ++ (⟨#[32]⟩ : ByteArray)) ++ (itoaT (clients.tmod 1000000))), .bool true] .nil (by kernel_rfl) (fun b115 => ?_)
            refine OPS.nil ?_
            refine thn_n ?_
            exact ⟨true, trivial, Bp.of Bp.t (by first | (simp only [h108, h113, iff_false, false_iff, iff_true, true_iff, Classical.not_not, and_true, true_and, and_false, false_and, or_true, true_or, or_false, false_or, not_true_eq_false, not_false_eq_true, and_self, or_self, iff_self]; done) | (simp [h108, h113]; done) | simp_all), by kernel_rfl, hp104⟩
        · refine OPS.batch 0 {} [] [2, 7, 11, 12, 106] [.string behind, .string ((((((((⟨#[99, 111, 110, 102, 105, 103, 32]⟩ : ByteArray) ++ (itoaT (c.N.tmod 1000000))) ++ (⟨#[32]⟩ : ByteArray)) ++ (itoaT (c.K.tmod 1000000))) ++ (⟨#[32]⟩ : ByteArray)) ++ (itoaT (c.Delta.tmod 1000000))) ++ (⟨#[32]⟩ : ByteArray)) ++ (itoaT (clients.tmod 1000000))), .pointer (some ⟨g102, 0, none⟩), .int .i64 nc96, .bool (decide (¬ (ec97 = 0)))] .nil (by kernel_rfl) (fun b109 => ?_)
          refine OPS.re [.string behind, .string ((((((((⟨#[99, 111, 110, 102, 105, 103, 32]⟩ : ByteArray) ++ (itoaT (c.N.tmod 1000000))) ++ (⟨#[32]⟩ : ByteArray)) ++ (itoaT (c.K.tmod 1000000))) ++ (⟨#[32]⟩ : ByteArray)) ++ (itoaT (c.Delta.tmod 1000000))) ++ (⟨#[32]⟩ : ByteArray)) ++ (itoaT (clients.tmod 1000000))), .pointer (some ⟨g102, 0, none⟩), .int .i64 nc96, .bool true] (by rw [show (decide (¬ (ec97 = 0))) = true from Bp.dec.tt h108]) ?_
          refine OPS.batch 8 { wraps := [110, 114] } [] [2, 7, 114] [.string behind, .string ((((((((⟨#[99, 111, 110, 102, 105, 103, 32]⟩ : ByteArray) ++ (itoaT (c.N.tmod 1000000))) ++ (⟨#[32]⟩ : ByteArray)) ++ (itoaT (c.K.tmod 1000000))) ++ (⟨#[32]⟩ : ByteArray)) ++ (itoaT (c.Delta.tmod 1000000))) ++ (⟨#[32]⟩ : ByteArray)) ++ (itoaT (clients.tmod 1000000))), .bool true] .nil (by kernel_rfl) (fun b110 => ?_)
          refine OPS.nil ?_
          refine thn_n ?_
          exact ⟨true, trivial, Bp.of Bp.t (by first | (simp only [h108, iff_false, false_iff, iff_true, true_iff, Classical.not_not, and_true, true_and, and_false, false_and, or_true, true_or, or_false, false_or, not_true_eq_false, not_false_eq_true, and_self, or_self, iff_self]; done) | (simp [h108]; done) | simp_all), by kernel_rfl, hp104⟩
      rintro e120 w121 ⟨x118, hd123, hb119, hE124, hp122⟩
      obtain ⟨b125, rfl⟩ := toMk hE124
      clear hE124
      clear hd123
      refine WP.test (p := ((¬ (ec97 = 0))) ∨ ((ec97 = 0) ∧ (¬ ((cc95.N = 3) ∧ ((cc95.K = 1) ∧ (cc95.Delta = 0))))) ∨ ((ec97 = 0) ∧ ((cc95.N = 3) ∧ ((cc95.K = 1) ∧ (cc95.Delta = 0))) ∧ (¬ (nc96 = 2)))) rfl hb119 (fun h126 => ?_) (fun h126 => ?_)
      · refine WP.seq ?_
        refine WP.pure {} [] [6] [.bool false] .nil (by kernel_rfl) (fun b127 => ?_)
        refine thn_n ?_
        refine WP.ret ?_
        refine thn_r ?_
        refine bodyQ.of _ rfl [.bool false] ⟨rfl, trivial⟩ ?_
        exfalso
        have hcc := hc98
        rw [← conf_3102] at hcc
        obtain ⟨_, _, f3⟩ := ConfR.of (a := 3) (b := 1) (g := 0) (d := 2) ⟨by omega, by omega⟩ ⟨by omega, by omega⟩ ⟨by omega, by omega⟩ ⟨by omega, by omega⟩ hcc
        obtain ⟨q1, q2, q3⟩ := f3 (by decide) (by omega)
        simp [q1, q2, q3] at h126
      · refine WP.skip ?_
        refine thn_n ?_
        refine WP.seq ?_
        refine WP.seq ?_
        refine WP.pure {} [] [2, 7, 14] [.string behind, .string ((((((((⟨#[99, 111, 110, 102, 105, 103, 32]⟩ : ByteArray) ++ (itoaT (c.N.tmod 1000000))) ++ (⟨#[32]⟩ : ByteArray)) ++ (itoaT (c.K.tmod 1000000))) ++ (⟨#[32]⟩ : ByteArray)) ++ (itoaT (c.Delta.tmod 1000000))) ++ (⟨#[32]⟩ : ByteArray)) ++ (itoaT (clients.tmod 1000000))), .int .i64 0] .nil (by kernel_rfl) (fun b128 => ?_)
        refine thn_n ?_
        refine WP.block ?_
        refine WP.loop (fun mz_ e129 w130 => ∃ (k : Nat), mz_ = behind.size - k ∧ (k ≤ behind.size ∧ ∀ i : Nat, i < k → ¬ (48 ≤ byteAt behind i ∧ byteAt behind i ≤ 57)) ∧ List.map e129 [2, 7, 14] = [.string behind, .string ((((((((⟨#[99, 111, 110, 102, 105, 103, 32]⟩ : ByteArray) ++ (itoaT (c.N.tmod 1000000))) ++ (⟨#[32]⟩ : ByteArray)) ++ (itoaT (c.K.tmod 1000000))) ++ (⟨#[32]⟩ : ByteArray)) ++ (itoaT (c.Delta.tmod 1000000))) ++ (⟨#[32]⟩ : ByteArray)) ++ (itoaT (clients.tmod 1000000))), .int .i64 (k : Int)] ∧ Hp w Non [Res.row g102 [.int .i64 cc95.N, .int .i64 cc95.K, .int .i64 cc95.Delta] 40, Res.row g56 [.int .i64 cc49.N, .int .i64 cc49.K, .int .i64 cc49.Delta] 40, Res.row g3 [.int .i64 (c.N.tmod 1000000), .int .i64 (c.K.tmod 1000000), .int .i64 (c.Delta.tmod 1000000)] 40] w130) (behind.size - (0)) ⟨0, rfl, ⟨by omega, fun i hi => by omega⟩, by kernel_rfl, hp122⟩ ?_
        rintro _ e129 w130 ⟨k, rfl, hI132, hE133, hp131⟩
        obtain ⟨b134, rfl⟩ := toMk hE133
        clear hE133
        obtain ⟨pa, pd⟩ := hI132
        refine WP.seq ?_
        refine WP.seq ?_
        refine WP.pure {} [] [2, 7, 14, 118] [.string behind, .string ((((((((⟨#[99, 111, 110, 102, 105, 103, 32]⟩ : ByteArray) ++ (itoaT (c.N.tmod 1000000))) ++ (⟨#[32]⟩ : ByteArray)) ++ (itoaT (c.K.tmod 1000000))) ++ (⟨#[32]⟩ : ByteArray)) ++ (itoaT (c.Delta.tmod 1000000))) ++ (⟨#[32]⟩ : ByteArray)) ++ (itoaT (clients.tmod 1000000))), .int .i64 (k : Int), .bool (decide ((k : Int) < (behind.size : Int)))] .nil (by kernel_rfl) (fun b135 => ?_)
        refine thn_n ?_
        refine WP.test (p := (k : Int) < (behind.size : Int)) rfl Bp.dec (fun h136 => ?_) (fun h136 => ?_)
        · refine WP.skip ?_
          refine thn_n ?_
          refine WP.seq ?_
          refine WP.block ?_
          refine WP.cut (fun e146 w147 => ∃ (x144 : Bool), (True) ∧ Bp x144 ((48 ≤ (byteAt behind ((k : Int)))) ∧ ((byteAt behind ((k : Int))) ≤ 57)) ∧ List.map e146 [2, 7, 14, 130] = [.string behind, .string ((((((((⟨#[99, 111, 110, 102, 105, 103, 32]⟩ : ByteArray) ++ (itoaT (c.N.tmod 1000000))) ++ (⟨#[32]⟩ : ByteArray)) ++ (itoaT (c.K.tmod 1000000))) ++ (⟨#[32]⟩ : ByteArray)) ++ (itoaT (c.Delta.tmod 1000000))) ++ (⟨#[32]⟩ : ByteArray)) ++ (itoaT (clients.tmod 1000000))), .int .i64 (k : Int), .bool x144] ∧ Hp w Non [Res.row g102 [.int .i64 cc95.N, .int .i64 cc95.K, .int .i64 cc95.Delta] 40, Res.row g56 [.int .i64 cc49.N, .int .i64 cc49.K, .int .i64 cc49.Delta] 40, Res.row g3 [.int .i64 (c.N.tmod 1000000), .int .i64 (c.K.tmod 1000000), .int .i64 (c.Delta.tmod 1000000)] 40] w147) ?_ ?_
          · refine WP.region _ rfl (by kernel_rfl) ?_
            refine OPS.batch 5 {} [] [2, 7, 14, 125] [.string behind, .string ((((((((⟨#[99, 111, 110, 102, 105, 103, 32]⟩ : ByteArray) ++ (itoaT (c.N.tmod 1000000))) ++ (⟨#[32]⟩ : ByteArray)) ++ (itoaT (c.K.tmod 1000000))) ++ (⟨#[32]⟩ : ByteArray)) ++ (itoaT (c.Delta.tmod 1000000))) ++ (⟨#[32]⟩ : ByteArray)) ++ (itoaT (clients.tmod 1000000))), .int .i64 (k : Int), .bool (decide (48 ≤ (byteAt behind ((k : Int)))))] (.cons (show InB ((k : Int)) behind.size from ⟨by first | omega | (simp only [ByteArray.size_append, sz32, szcf, szc2]; omega), by first | omega | (simp only [ByteArray.size_append, sz32, szcf, szc2]; omega)⟩) .nil) (by kernel_rfl) (fun b138 => ?_)
            by_cases h139 : 48 ≤ (byteAt behind ((k : Int)))
            · refine OPS.batch 0 {} [] [2, 7, 14, 125] [.string behind, .string ((((((((⟨#[99, 111, 110, 102, 105, 103, 32]⟩ : ByteArray) ++ (itoaT (c.N.tmod 1000000))) ++ (⟨#[32]⟩ : ByteArray)) ++ (itoaT (c.K.tmod 1000000))) ++ (⟨#[32]⟩ : ByteArray)) ++ (itoaT (c.Delta.tmod 1000000))) ++ (⟨#[32]⟩ : ByteArray)) ++ (itoaT (clients.tmod 1000000))), .int .i64 (k : Int), .bool (decide (48 ≤ (byteAt behind ((k : Int)))))] .nil (by kernel_rfl) (fun b140 => ?_)
              refine OPS.re [.string behind, .string ((((((((⟨#[99, 111, 110, 102, 105, 103, 32]⟩ : ByteArray) ++ (itoaT (c.N.tmod 1000000))) ++ (⟨#[32]⟩ : ByteArray)) ++ (itoaT (c.K.tmod 1000000))) ++ (⟨#[32]⟩ : ByteArray)) ++ (itoaT (c.Delta.tmod 1000000))) ++ (⟨#[32]⟩ : ByteArray)) ++ (itoaT (clients.tmod 1000000))), .int .i64 (k : Int), .bool true] (by rw [show (decide (48 ≤ (byteAt behind ((k : Int))))) = true from Bp.dec.tt h139]) ?_
              refine OPS.batch 5 { wraps := [130] } [] [2, 7, 14, 130] [.string behind, .string ((((((((⟨#[99, 111, 110, 102, 105, 103, 32]⟩ : ByteArray) ++ (itoaT (c.N.tmod 1000000))) ++ (⟨#[32]⟩ : ByteArray)) ++ (itoaT (c.K.tmod 1000000))) ++ (⟨#[32]⟩ : ByteArray)) ++ (itoaT (c.Delta.tmod 1000000))) ++ (⟨#[32]⟩ : ByteArray)) ++ (itoaT (clients.tmod 1000000))), .int .i64 (k : Int), .bool (decide ((byteAt behind ((k : Int))) ≤ 57))] (.cons (show InB ((k : Int)) behind.size from ⟨by first | omega | (simp only [ByteArray.size_append, sz32, szcf, szc2]; omega), by first | omega | (simp only [ByteArray.size_append, sz32, szcf, szc2]; omega)⟩) .nil) (by kernel_rfl) (fun b141 => ?_)
              refine OPS.nil ?_
              refine thn_n ?_
              exact ⟨decide ((byteAt behind ((k : Int))) ≤ 57), trivial, Bp.of Bp.dec (by first | (simp only [h139, iff_false, false_iff, iff_true, true_iff, Classical.not_not, and_true, true_and, and_false, false_and, or_true, true_or, or_false, false_or, not_true_eq_false, not_false_eq_true, and_self, or_self, iff_self]; done) | (simp [h139]; done) | simp_all), by kernel_rfl, hp131⟩
            · refine OPS.batch 0 {} [] [2, 7, 14, 125] [.string behind, .string ((((((((⟨#[99, 111, 110, 102, 105, 103, 32]⟩ : ByteArray) ++ (itoaT (c.N.tmod 1000000))) ++ (⟨#[32]⟩ : ByteArray)) ++ (itoaT (c.K.tmod 1000000))) ++ (⟨#[32]⟩ : ByteArray)) ++ (itoaT (c.Delta.tmod 1000000))) ++ (⟨#[32]⟩ : ByteArray)) ++ (itoaT (clients.tmod 1000000))), .int .i64 (k : Int), .bool (decide (48 ≤ (byteAt behind ((k : Int)))))] .nil (by kernel_rfl) (fun b142 => ?_)
              refine OPS.re [.string behind, .string ((((((((⟨#[99, 111, 110, 102, 105, 103, 32]⟩ : ByteArray) ++ (itoaT (c.N.tmod 1000000))) ++ (⟨#[32]⟩ : ByteArray)) ++ (itoaT (c.K.tmod 1000000))) ++ (⟨#[32]⟩ : ByteArray)) ++ (itoaT (c.Delta.tmod 1000000))) ++ (⟨#[32]⟩ : ByteArray)) ++ (itoaT (clients.tmod 1000000))), .int .i64 (k : Int), .bool false] (by rw [show (decide (48 ≤ (byteAt behind ((k : Int))))) = false from Bp.dec.ff h139]) ?_
              refine OPS.batch 5 { wraps := [130] } [] [2, 7, 14, 130] [.string behind, .string ((((((((⟨#[99, 111, 110, 102, 105, 103, 32]⟩ : ByteArray) ++ (itoaT (c.N.tmod 1000000))) ++ (⟨#[32]⟩ : ByteArray)) ++ (itoaT (c.K.tmod 1000000))) ++ (⟨#[32]⟩ : ByteArray)) ++ (itoaT (c.Delta.tmod 1000000))) ++ (⟨#[32]⟩ : ByteArray)) ++ (itoaT (clients.tmod 1000000))), .int .i64 (k : Int), .bool false] .nil (by kernel_rfl) (fun b143 => ?_)
              refine OPS.nil ?_
              refine thn_n ?_
              exact ⟨false, trivial, Bp.of Bp.f (by first | (simp only [h139, iff_false, false_iff, iff_true, true_iff, Classical.not_not, and_true, true_and, and_false, false_and, or_true, true_or, or_false, false_or, not_true_eq_false, not_false_eq_true, and_self, or_self, iff_self]; done) | (simp [h139]; done) | simp_all), by kernel_rfl, hp131⟩
          rintro e146 w147 ⟨x144, hd149, hb145, hE150, hp148⟩
          obtain ⟨b151, rfl⟩ := toMk hE150
          clear hE150
          clear hd149
          refine WP.test (p := (48 ≤ (byteAt behind ((k : Int)))) ∧ ((byteAt behind ((k : Int))) ≤ 57)) rfl hb145 (fun h152 => ?_) (fun h152 => ?_)
          · refine WP.seq ?_
            refine WP.pure {} [] [6] [.bool true] .nil (by kernel_rfl) (fun b153 => ?_)
            refine thn_n ?_
            refine WP.ret ?_
            refine blk_r ?_
            refine thn_r ?_
            refine thn_r ?_
            refine blk_r ?_
            refine thn_r ?_
            refine bodyQ.of _ rfl [.bool true] ⟨rfl, trivial⟩ ?_
            exact ⟨rfl, hp148.fr⟩
          · refine WP.skip ?_
            refine blk_n ?_
            refine thn_n ?_
            refine WP.pure {} [] [2, 7, 14] [.string behind, .string ((((((((⟨#[99, 111, 110, 102, 105, 103, 32]⟩ : ByteArray) ++ (itoaT (c.N.tmod 1000000))) ++ (⟨#[32]⟩ : ByteArray)) ++ (itoaT (c.K.tmod 1000000))) ++ (⟨#[32]⟩ : ByteArray)) ++ (itoaT (c.Delta.tmod 1000000))) ++ (⟨#[32]⟩ : ByteArray)) ++ (itoaT (clients.tmod 1000000))), .int .i64 ((k : Int) + 1)] (.cons (show Rng .i64 ((k : Int) + 1) from Rng.i64 (by first | omega | (simp only [ByteArray.size_append, sz32, szcf, szc2]; omega))) .nil) (by kernel_rfl) (fun b154 => ?_)
            refine thn_n ?_
            exact ⟨behind.size - (k + 1), (by omega), k + 1, rfl, ⟨by omega, fun i hi => by by_cases e : i = k; subst e; omega; exact pd i (by omega)⟩, by kernel_rfl, hp148⟩
        · refine WP.exit ?_
          refine thn_x ?_
          refine thn_x ?_
          refine blk_hit ?_
          refine thn_n ?_
          refine WP.seq ?_
          refine WP.region _ rfl (by kernel_rfl) ?_
          refine OPS.batch 3 {} [] [2, 134] [.string behind, .string (((((((((⟨#[99, 111, 110, 102, 105, 103, 32]⟩ : ByteArray) ++ (itoaT (c.N.tmod 1000000))) ++ (⟨#[32]⟩ : ByteArray)) ++ (itoaT (c.K.tmod 1000000))) ++ (⟨#[32]⟩ : ByteArray)) ++ (itoaT (c.Delta.tmod 1000000))) ++ (⟨#[32]⟩ : ByteArray)) ++ (itoaT (clients.tmod 1000000))) ++ behind)] (.cons (show ((((((((⟨#[99, 111, 110, 102, 105, 103, 32]⟩ : ByteArray) ++ (itoaT (c.N.tmod 1000000))) ++ (⟨#[32]⟩ : ByteArray)) ++ (itoaT (c.K.tmod 1000000))) ++ (⟨#[32]⟩ : ByteArray)) ++ (itoaT (c.Delta.tmod 1000000))) ++ (⟨#[32]⟩ : ByteArray)) ++ (itoaT (clients.tmod 1000000))).size + behind.size ≤ 9223372036854775807 from by first | omega | (simp only [ByteArray.size_append, sz32, szcf, szc2]; omega)) .nil) (by kernel_rfl) (fun b155 => ?_)
          refine OPS.cons (opStep.call (some 135) [.string (((((((((⟨#[99, 111, 110, 102, 105, 103, 32]⟩ : ByteArray) ++ (itoaT (c.N.tmod 1000000))) ++ (⟨#[32]⟩ : ByteArray)) ++ (itoaT (c.K.tmod 1000000))) ++ (⟨#[32]⟩ : ByteArray)) ++ (itoaT (c.Delta.tmod 1000000))) ++ (⟨#[32]⟩ : ByteArray)) ++ (itoaT (clients.tmod 1000000))) ++ behind)] (by kernel_rfl) (sc_Config (((((((((⟨#[99, 111, 110, 102, 105, 103, 32]⟩ : ByteArray) ++ (itoaT (c.N.tmod 1000000))) ++ (⟨#[32]⟩ : ByteArray)) ++ (itoaT (c.K.tmod 1000000))) ++ (⟨#[32]⟩ : ByteArray)) ++ (itoaT (c.Delta.tmod 1000000))) ++ (⟨#[32]⟩ : ByteArray)) ++ (itoaT (clients.tmod 1000000))) ++ behind) (by first | omega | (simp only [ByteArray.size_append, sz32, szcf, szc2]; omega)) _ (hl.fram hp131.fr)) ?_)
          rintro _ w158 ⟨cc161, nc162, ec163, rfl, hc164, hf159⟩
          refine ⟨_, rfl, ?_⟩
          have hp160 := hp131.step hf159
          refine OPS.batch 5 {} [] [2, 13] [.string behind, .int .i64 ec163] .nil (by kernel_rfl) (fun b165 => ?_)
          refine OPS.nil ?_
          refine thn_n ?_
          refine WP.cut (fun e175 w176 => ∃ (x173 : Bool), (True) ∧ Bp x173 (((behind = ⟨#[]⟩)) ∨ ((¬ (behind = ⟨#[]⟩)) ∧ (ec163 = 82))) ∧ List.map e175 [6] = [.bool x173] ∧ Hp w Non [Res.row g102 [.int .i64 cc95.N, .int .i64 cc95.K, .int .i64 cc95.Delta] 40, Res.row g56 [.int .i64 cc49.N, .int .i64 cc49.K, .int .i64 cc49.Delta] 40, Res.row g3 [.int .i64 (c.N.tmod 1000000), .int .i64 (c.K.tmod 1000000), .int .i64 (c.Delta.tmod 1000000)] 40] w176) ?_ ?_
          · refine WP.region _ rfl (by kernel_rfl) ?_
            refine OPS.batch 3 {} [] [13, 141] [.int .i64 ec163, .bool (decide (behind = ⟨#[]⟩))] .nil (by kernel_rfl) (fun b167 => ?_)
            by_cases h168 : behind = ⟨#[]⟩
            · refine OPS.batch 0 {} [] [13, 141] [.int .i64 ec163, .bool (decide (behind = ⟨#[]⟩))] .nil (by kernel_rfl) (fun b169 => ?_)
              refine OPS.re [.int .i64 ec163, .bool true] (by rw [show (decide (behind = ⟨#[]⟩)) = true from Bp.dec.tt h168]) ?_
              refine OPS.batch 4 { wraps := [144] } [] [6] [.bool true] .nil (by kernel_rfl) (fun b170 => ?_)
              refine OPS.nil ?_
              refine thn_n ?_
              exact ⟨true, trivial, Bp.of Bp.t (by first | (simp only [h168, iff_false, false_iff, iff_true, true_iff, Classical.not_not, and_true, true_and, and_false, false_and, or_true, true_or, or_false, false_or, not_true_eq_false, not_false_eq_true, and_self, or_self, iff_self]; done) | (simp [h168]; done) | simp_all), by kernel_rfl, hp160⟩
            · refine OPS.batch 0 {} [] [13, 141] [.int .i64 ec163, .bool (decide (behind = ⟨#[]⟩))] .nil (by kernel_rfl) (fun b171 => ?_)
              refine OPS.re [.int .i64 ec163, .bool false] (by rw [show (decide (behind = ⟨#[]⟩)) = false from Bp.dec.ff h168]) ?_
              refine OPS.batch 4 { wraps := [144] } [] [6] [.bool (decide (ec163 = 82))] .nil (by kernel_rfl) (fun b172 => ?_)
              refine OPS.nil ?_
              refine thn_n ?_
              exact ⟨decide (ec163 = 82), trivial, Bp.of Bp.dec (by first | (simp only [h168, iff_false, false_iff, iff_true, true_iff, Classical.not_not, and_true, true_and, and_false, false_and, or_true, true_or, or_false, false_or, not_true_eq_false, not_false_eq_true, and_self, or_self, iff_self]; done) | (simp [h168]; done) | simp_all), by kernel_rfl, hp160⟩
          rintro e175 w176 ⟨x173, hd178, hb174, hE179, hp177⟩
          obtain ⟨b180, rfl⟩ := toMk hE179
          clear hE179
          clear hd178
          refine WP.ret ?_
          refine bodyQ.of _ rfl [.bool x173] ⟨rfl, trivial⟩ ?_
          exact ⟨congrArg (fun b => Ending.returned (.bool b)) (Bp.tt hb174 (by by_cases hb : behind = (⟨#[]⟩ : ByteArray); exact .inl hb; exact .inr ⟨hb, conf_zero hc164 (conf_behind hb (fun i hi => pd i (by omega)))⟩)), hp177.fr⟩
  · replace h67 := Classical.not_not.1 h67
    refine WP.cut (fun e190 w191 => ∃ (x188 : Bool), (True) ∧ Bp x188 ((((clients.tmod 1000000) < 0)) ∨ ((¬ ((clients.tmod 1000000) < 0)) ∧ (255 < (clients.tmod 1000000)))) ∧ List.map e190 [1, 2, 3, 7, 8, 9, 10, 68] = [.int .i64 (clients.tmod 1000000), .string behind, .pointer (some ⟨g3, 0, none⟩), .string ((((((((⟨#[99, 111, 110, 102, 105, 103, 32]⟩ : ByteArray) ++ (itoaT (c.N.tmod 1000000))) ++ (⟨#[32]⟩ : ByteArray)) ++ (itoaT (c.K.tmod 1000000))) ++ (⟨#[32]⟩ : ByteArray)) ++ (itoaT (c.Delta.tmod 1000000))) ++ (⟨#[32]⟩ : ByteArray)) ++ (itoaT (clients.tmod 1000000))), .pointer (some ⟨g56, 0, none⟩), .int .i64 nc50, .int .i64 ec51, .bool x188] ∧ Hp w Non [Res.row g56 [.int .i64 cc49.N, .int .i64 cc49.K, .int .i64 cc49.Delta] 40, Res.row g3 [.int .i64 (c.N.tmod 1000000), .int .i64 (c.K.tmod 1000000), .int .i64 (c.Delta.tmod 1000000)] 40] w191) ?_ ?_
    · refine WP.region _ rfl (by kernel_rfl) ?_
      refine OPS.batch 3 {} [] [1, 2, 3, 7, 8, 9, 10, 71] [.int .i64 (clients.tmod 1000000), .string behind, .pointer (some ⟨g3, 0, none⟩), .string ((((((((⟨#[99, 111, 110, 102, 105, 103, 32]⟩ : ByteArray) ++ (itoaT (c.N.tmod 1000000))) ++ (⟨#[32]⟩ : ByteArray)) ++ (itoaT (c.K.tmod 1000000))) ++ (⟨#[32]⟩ : ByteArray)) ++ (itoaT (c.Delta.tmod 1000000))) ++ (⟨#[32]⟩ : ByteArray)) ++ (itoaT (clients.tmod 1000000))), .pointer (some ⟨g56, 0, none⟩), .int .i64 nc50, .int .i64 ec51, .bool (decide ((clients.tmod 1000000) < 0))] .nil (by kernel_rfl) (fun b182 => ?_)
      by_cases h183 : (clients.tmod 1000000) < 0
      · refine OPS.batch 0 {} [] [1, 2, 3, 7, 8, 9, 10, 71] [.int .i64 (clients.tmod 1000000), .string behind, .pointer (some ⟨g3, 0, none⟩), .string ((((((((⟨#[99, 111, 110, 102, 105, 103, 32]⟩ : ByteArray) ++ (itoaT (c.N.tmod 1000000))) ++ (⟨#[32]⟩ : ByteArray)) ++ (itoaT (c.K.tmod 1000000))) ++ (⟨#[32]⟩ : ByteArray)) ++ (itoaT (c.Delta.tmod 1000000))) ++ (⟨#[32]⟩ : ByteArray)) ++ (itoaT (clients.tmod 1000000))), .pointer (some ⟨g56, 0, none⟩), .int .i64 nc50, .int .i64 ec51, .bool (decide ((clients.tmod 1000000) < 0))] .nil (by kernel_rfl) (fun b184 => ?_)
        refine OPS.re [.int .i64 (clients.tmod 1000000), .string behind, .pointer (some ⟨g3, 0, none⟩), .string ((((((((⟨#[99, 111, 110, 102, 105, 103, 32]⟩ : ByteArray) ++ (itoaT (c.N.tmod 1000000))) ++ (⟨#[32]⟩ : ByteArray)) ++ (itoaT (c.K.tmod 1000000))) ++ (⟨#[32]⟩ : ByteArray)) ++ (itoaT (c.Delta.tmod 1000000))) ++ (⟨#[32]⟩ : ByteArray)) ++ (itoaT (clients.tmod 1000000))), .pointer (some ⟨g56, 0, none⟩), .int .i64 nc50, .int .i64 ec51, .bool true] (by rw [show (decide ((clients.tmod 1000000) < 0)) = true from Bp.dec.tt h183]) ?_
        refine OPS.batch 4 { wraps := [74] } [] [1, 2, 3, 7, 8, 9, 10, 68] [.int .i64 (clients.tmod 1000000), .string behind, .pointer (some ⟨g3, 0, none⟩), .string ((((((((⟨#[99, 111, 110, 102, 105, 103, 32]⟩ : ByteArray) ++ (itoaT (c.N.tmod 1000000))) ++ (⟨#[32]⟩ : ByteArray)) ++ (itoaT (c.K.tmod 1000000))) ++ (⟨#[32]⟩ : ByteArray)) ++ (itoaT (c.Delta.tmod 1000000))) ++ (⟨#[32]⟩ : ByteArray)) ++ (itoaT (clients.tmod 1000000))), .pointer (some ⟨g56, 0, none⟩), .int .i64 nc50, .int .i64 ec51, .bool true] .nil (by kernel_rfl) (fun b185 => ?_)
        refine OPS.nil ?_
        refine thn_n ?_
        exact ⟨true, trivial, Bp.of Bp.t (by first | (simp only [h183, iff_false, false_iff, iff_true, true_iff, Classical.not_not, and_true, true_and, and_false, false_and, or_true, true_or, or_false, false_or, not_true_eq_false, not_false_eq_true, and_self, or_self, iff_self]; done) | (simp [h183]; done) | simp_all), by kernel_rfl, hp65⟩
      · refine OPS.batch 0 {} [] [1, 2, 3, 7, 8, 9, 10, 71] [.int .i64 (clients.tmod 1000000), .string behind, .pointer (some ⟨g3, 0, none⟩), .string ((((((((⟨#[99, 111, 110, 102, 105, 103, 32]⟩ : ByteArray) ++ (itoaT (c.N.tmod 1000000))) ++ (⟨#[32]⟩ : ByteArray)) ++ (itoaT (c.K.tmod 1000000))) ++ (⟨#[32]⟩ : ByteArray)) ++ (itoaT (c.Delta.tmod 1000000))) ++ (⟨#[32]⟩ : ByteArray)) ++ (itoaT (clients.tmod 1000000))), .pointer (some ⟨g56, 0, none⟩), .int .i64 nc50, .int .i64 ec51, .bool (decide ((clients.tmod 1000000) < 0))] .nil (by kernel_rfl) (fun b186 => ?_)
        refine OPS.re [.int .i64 (clients.tmod 1000000), .string behind, .pointer (some ⟨g3, 0, none⟩), .string ((((((((⟨#[99, 111, 110, 102, 105, 103, 32]⟩ : ByteArray) ++ (itoaT (c.N.tmod 1000000))) ++ (⟨#[32]⟩ : ByteArray)) ++ (itoaT (c.K.tmod 1000000))) ++ (⟨#[32]⟩ : ByteArray)) ++ (itoaT (c.Delta.tmod 1000000))) ++ (⟨#[32]⟩ : ByteArray)) ++ (itoaT (clients.tmod 1000000))), .pointer (some ⟨g56, 0, none⟩), .int .i64 nc50, .int .i64 ec51, .bool false] (by rw [show (decide ((clients.tmod 1000000) < 0)) = false from Bp.dec.ff h183]) ?_
        refine OPS.batch 4 { wraps := [74] } [] [1, 2, 3, 7, 8, 9, 10, 68] [.int .i64 (clients.tmod 1000000), .string behind, .pointer (some ⟨g3, 0, none⟩), .string ((((((((⟨#[99, 111, 110, 102, 105, 103, 32]⟩ : ByteArray) ++ (itoaT (c.N.tmod 1000000))) ++ (⟨#[32]⟩ : ByteArray)) ++ (itoaT (c.K.tmod 1000000))) ++ (⟨#[32]⟩ : ByteArray)) ++ (itoaT (c.Delta.tmod 1000000))) ++ (⟨#[32]⟩ : ByteArray)) ++ (itoaT (clients.tmod 1000000))), .pointer (some ⟨g56, 0, none⟩), .int .i64 nc50, .int .i64 ec51, .bool (decide (255 < (clients.tmod 1000000)))] .nil (by kernel_rfl) (fun b187 => ?_)
        refine OPS.nil ?_
        refine thn_n ?_
        exact ⟨decide (255 < (clients.tmod 1000000)), trivial, Bp.of Bp.dec (by first | (simp only [h183, iff_false, false_iff, iff_true, true_iff, Classical.not_not, and_true, true_and, and_false, false_and, or_true, true_or, or_false, false_or, not_true_eq_false, not_false_eq_true, and_self, or_self, iff_self]; done) | (simp [h183]; done) | simp_all), by kernel_rfl, hp65⟩
    rintro e190 w191 ⟨x188, hd193, hb189, hE194, hp192⟩
    obtain ⟨b195, rfl⟩ := toMk hE194
    clear hE194
    clear hd193
    refine WP.test (p := (((clients.tmod 1000000) < 0)) ∨ ((¬ ((clients.tmod 1000000) < 0)) ∧ (255 < (clients.tmod 1000000)))) rfl hb189 (fun h196 => ?_) (fun h196 => ?_)
    · refine WP.cut (fun e211 w212 => ∃ (x209 : Bool), (True) ∧ Bp x209 (((¬ (ec51 = 1))) ∨ ((ec51 = 1) ∧ (¬ ((cc49.N = 0) ∧ ((cc49.K = 0) ∧ (cc49.Delta = 0))))) ∨ ((ec51 = 1) ∧ ((cc49.N = 0) ∧ ((cc49.K = 0) ∧ (cc49.Delta = 0))) ∧ (¬ (nc50 = 0)))) ∧ List.map e211 [2, 7, 85] = [.string behind, .string ((((((((⟨#[99, 111, 110, 102, 105, 103, 32]⟩ : ByteArray) ++ (itoaT (c.N.tmod 1000000))) ++ (⟨#[32]⟩ : ByteArray)) ++ (itoaT (c.K.tmod 1000000))) ++ (⟨#[32]⟩ : ByteArray)) ++ (itoaT (c.Delta.tmod 1000000))) ++ (⟨#[32]⟩ : ByteArray)) ++ (itoaT (clients.tmod 1000000))), .bool x209] ∧ Hp w Non [Res.row g56 [.int .i64 cc49.N, .int .i64 cc49.K, .int .i64 cc49.Delta] 40, Res.row g3 [.int .i64 (c.N.tmod 1000000), .int .i64 (c.K.tmod 1000000), .int .i64 (c.Delta.tmod 1000000)] 40] w212) ?_ ?_
      · refine WP.region _ rfl (by kernel_rfl) ?_
        refine OPS.batch 3 {} [] [2, 7, 8, 9, 77] [.string behind, .string ((((((((⟨#[99, 111, 110, 102, 105, 103, 32]⟩ : ByteArray) ++ (itoaT (c.N.tmod 1000000))) ++ (⟨#[32]⟩ : ByteArray)) ++ (itoaT (c.K.tmod 1000000))) ++ (⟨#[32]⟩ : ByteArray)) ++ (itoaT (c.Delta.tmod 1000000))) ++ (⟨#[32]⟩ : ByteArray)) ++ (itoaT (clients.tmod 1000000))), .pointer (some ⟨g56, 0, none⟩), .int .i64 nc50, .bool (decide (¬ (ec51 = 1)))] .nil (by kernel_rfl) (fun b198 => ?_)
        by_cases h199 : ec51 = 1
        · refine OPS.batch 0 {} [] [2, 7, 8, 9, 77] [.string behind, .string ((((((((⟨#[99, 111, 110, 102, 105, 103, 32]⟩ : ByteArray) ++ (itoaT (c.N.tmod 1000000))) ++ (⟨#[32]⟩ : ByteArray)) ++ (itoaT (c.K.tmod 1000000))) ++ (⟨#[32]⟩ : ByteArray)) ++ (itoaT (c.Delta.tmod 1000000))) ++ (⟨#[32]⟩ : ByteArray)) ++ (itoaT (clients.tmod 1000000))), .pointer (some ⟨g56, 0, none⟩), .int .i64 nc50, .bool (decide (¬ (ec51 = 1)))] .nil (by kernel_rfl) (fun b202 => ?_)
          refine OPS.re [.string behind, .string ((((((((⟨#[99, 111, 110, 102, 105, 103, 32]⟩ : ByteArray) ++ (itoaT (c.N.tmod 1000000))) ++ (⟨#[32]⟩ : ByteArray)) ++ (itoaT (c.K.tmod 1000000))) ++ (⟨#[32]⟩ : ByteArray)) ++ (itoaT (c.Delta.tmod 1000000))) ++ (⟨#[32]⟩ : ByteArray)) ++ (itoaT (clients.tmod 1000000))), .pointer (some ⟨g56, 0, none⟩), .int .i64 nc50, .bool false] (by rw [show (decide (¬ (ec51 = 1))) = false from Bp.dec.ff (fun k => k h199)]) ?_
          refine OPS.batch 5 { wraps := [81] } [GConfig.val cc49] [2, 7, 9, 82] [.string behind, .string ((((((((⟨#[99, 111, 110, 102, 105, 103, 32]⟩ : ByteArray) ++ (itoaT (c.N.tmod 1000000))) ++ (⟨#[32]⟩ : ByteArray)) ++ (itoaT (c.K.tmod 1000000))) ++ (⟨#[32]⟩ : ByteArray)) ++ (itoaT (c.Delta.tmod 1000000))) ++ (⟨#[32]⟩ : ByteArray)) ++ (itoaT (clients.tmod 1000000))), .int .i64 nc50, .bool (!((decide (cc49.N = 0)) && ((decide (cc49.K = 0)) && ((decide (cc49.Delta = 0)) && true))))] (.cons (show Ld Tryd.prog w191 40 ⟨g56, 0, none⟩ (GConfig.val cc49) from Ld.rowN (cs := [.int .i64 cc49.N, .int .i64 cc49.K, .int .i64 cc49.Delta]) hp192.get0 (by kernel_rfl)) .nil) (by kernel_rfl) (fun b203 => ?_)
          by_cases h204 : (cc49.N = 0) ∧ ((cc49.K = 0) ∧ (cc49.Delta = 0))
          · refine OPS.batch 0 {} [] [2, 7, 9, 82] [.string behind, .string ((((((((⟨#[99, 111, 110, 102, 105, 103, 32]⟩ : ByteArray) ++ (itoaT (c.N.tmod 1000000))) ++ (⟨#[32]⟩ : ByteArray)) ++ (itoaT (c.K.tmod 1000000))) ++ (⟨#[32]⟩ : ByteArray)) ++ (itoaT (c.Delta.tmod 1000000))) ++ (⟨#[32]⟩ : ByteArray)) ++ (itoaT (clients.tmod 1000000))), .int .i64 nc50, .bool (!((decide (cc49.N = 0)) && ((decide (cc49.K = 0)) && ((decide (cc49.Delta = 0)) && true))))] .nil (by kernel_rfl) (fun b207 => ?_)
            refine OPS.re [.string behind, .string ((((((((⟨#[99, 111, 110, 102, 105, 103, 32]⟩ : ByteArray) ++ (itoaT (c.N.tmod 1000000))) ++ (⟨#[32]⟩ : ByteArray)) ++ (itoaT (c.K.tmod 1000000))) ++ (⟨#[32]⟩ : ByteArray)) ++ (itoaT (c.Delta.tmod 1000000))) ++ (⟨#[32]⟩ : ByteArray)) ++ (itoaT (clients.tmod 1000000))), .int .i64 nc50, .bool false] (by rw [show (!((decide (cc49.N = 0)) && ((decide (cc49.K = 0)) && ((decide (cc49.Delta = 0)) && true)))) = false from (Bp.not (Bp.band Bp.dec (Bp.band Bp.dec (Bp.band1 Bp.dec)))).ff (fun k => k h204)]) ?_
            refine OPS.batch 3 { wraps := [85] } [] [2, 7, 85] [.string behind, .string ((((((((⟨#[99, 111, 110, 102, 105, 103, 32]⟩ : ByteArray) ++ (itoaT (c.N.tmod 1000000))) ++ (⟨#[32]⟩ : ByteArray)) ++ (itoaT (c.K.tmod 1000000))) ++ (⟨#[32]⟩ : ByteArray)) ++ (itoaT (c.Delta.tmod 1000000))) ++ (⟨#[32]⟩ : ByteArray)) ++ (itoaT (clients.tmod 1000000))), .bool (decide (¬ (nc50 = 0)))] .nil (by kernel_rfl) (fun b208 => ?_)
            refine OPS.nil ?_
            refine thn_n ?_
            exact ⟨decide (¬ (nc50 = 0)), trivial, Bp.of Bp.dec (by first | (simp only [h199, h204, iff_false, false_iff, iff_true, true_iff, Classical.not_not, and_true, true_and, and_false, false_and, or_true, true_or, or_false, false_or, not_true_eq_false, not_false_eq_true, and_self, or_self, iff_self]; done) | (simp [h199, h204]; done) | simp_all), by kernel_rfl, hp192⟩
          · refine OPS.batch 0 {} [] [2, 7, 9, 82] [.string behind, .string ((((((((⟨#[99, 111, 110, 102, 105, 103, 32]⟩ : ByteArray) ++ (itoaT (c.N.tmod 1000000))) ++ (⟨#[32]⟩ : ByteArray)) ++ (itoaT (c.K.tmod 1000000))) ++ (⟨#[32]⟩ : ByteArray)) ++ (itoaT (c.Delta.tmod 1000000))) ++ (⟨#[32]⟩ : ByteArray)) ++ (itoaT (clients.tmod 1000000))), .int .i64 nc50, .bool (!((decide (cc49.N = 0)) && ((decide (cc49.K = 0)) && ((decide (cc49.Delta = 0)) && true))))] .nil (by kernel_rfl) (fun b205 => ?_)
            refine OPS.re [.string behind, .string ((((((((⟨#[99, 111, 110, 102, 105, 103, 32]⟩ : ByteArray) ++ (itoaT (c.N.tmod 1000000))) ++ (⟨#[32]⟩ : ByteArray)) ++ (itoaT (c.K.tmod 1000000))) ++ (⟨#[32]⟩ : ByteArray)) ++ (itoaT (c.Delta.tmod 1000000))) ++ (⟨#[32]⟩ : ByteArray)) ++ (itoaT (clients.tmod 1000000))), .int .i64 nc50, .bool true] (by rw [show (!((decide (cc49.N = 0)) && ((decide (cc49.K = 0)) && ((decide (cc49.Delta = 0)) && true)))) = true from (Bp.not (Bp.band Bp.dec (Bp.band Bp.dec (Bp.band1 Bp.dec)))).tt h204]) ?_
            refine OPS.batch 3 { wraps := [85] } [] [2, 7, 85] [.string behind, .string ((((((((⟨#[99, 111, 110, 102, 105, 103, 32]⟩ : ByteArray) ++ (itoaT (c.N.tmod 1000000))) ++ (⟨#[32]⟩ : ByteArray)) ++ (itoaT (c.K.tmod 1000000))) ++ (⟨#[32]⟩ : ByteArray)) ++ (itoaT (c.Delta.tmod 1000000))) ++ (⟨#[32]⟩ : ByteArray)) ++ (itoaT (clients.tmod 1000000))), .bool true] .nil (by kernel_rfl) (fun b206 => ?_)
            refine OPS.nil ?_
            refine thn_n ?_
            exact ⟨true, trivial, Bp.of Bp.t (by first | (simp only [h199, h204, iff_false, false_iff, iff_true, true_iff, Classical.not_not, and_true, true_and, and_false, false_and, or_true, true_or, or_false, false_or, not_true_eq_false, not_false_eq_true, and_self, or_self, iff_self]; done) | (simp [h199, h204]; done) | simp_all), by kernel_rfl, hp192⟩
        · refine OPS.batch 0 {} [] [2, 7, 8, 9, 77] [.string behind, .string ((((((((⟨#[99, 111, 110, 102, 105, 103, 32]⟩ : ByteArray) ++ (itoaT (c.N.tmod 1000000))) ++ (⟨#[32]⟩ : ByteArray)) ++ (itoaT (c.K.tmod 1000000))) ++ (⟨#[32]⟩ : ByteArray)) ++ (itoaT (c.Delta.tmod 1000000))) ++ (⟨#[32]⟩ : ByteArray)) ++ (itoaT (clients.tmod 1000000))), .pointer (some ⟨g56, 0, none⟩), .int .i64 nc50, .bool (decide (¬ (ec51 = 1)))] .nil (by kernel_rfl) (fun b200 => ?_)
          refine OPS.re [.string behind, .string ((((((((⟨#[99, 111, 110, 102, 105, 103, 32]⟩ : ByteArray) ++ (itoaT (c.N.tmod 1000000))) ++ (⟨#[32]⟩ : ByteArray)) ++ (itoaT (c.K.tmod 1000000))) ++ (⟨#[32]⟩ : ByteArray)) ++ (itoaT (c.Delta.tmod 1000000))) ++ (⟨#[32]⟩ : ByteArray)) ++ (itoaT (clients.tmod 1000000))), .pointer (some ⟨g56, 0, none⟩), .int .i64 nc50, .bool true] (by rw [show (decide (¬ (ec51 = 1))) = true from Bp.dec.tt h199]) ?_
          refine OPS.batch 8 { wraps := [81, 85] } [] [2, 7, 85] [.string behind, .string ((((((((⟨#[99, 111, 110, 102, 105, 103, 32]⟩ : ByteArray) ++ (itoaT (c.N.tmod 1000000))) ++ (⟨#[32]⟩ : ByteArray)) ++ (itoaT (c.K.tmod 1000000))) ++ (⟨#[32]⟩ : ByteArray)) ++ (itoaT (c.Delta.tmod 1000000))) ++ (⟨#[32]⟩ : ByteArray)) ++ (itoaT (clients.tmod 1000000))), .bool true] .nil (by kernel_rfl) (fun b201 => ?_)
          refine OPS.nil ?_
          refine thn_n ?_
          exact ⟨true, trivial, Bp.of Bp.t (by first | (simp only [h199, iff_false, false_iff, iff_true, true_iff, Classical.not_not, and_true, true_and, and_false, false_and, or_true, true_or, or_false, false_or, not_true_eq_false, not_false_eq_true, and_self, or_self, iff_self]; done) | (simp [h199]; done) | simp_all), by kernel_rfl, hp192⟩
      rintro e211 w212 ⟨x209, hd214, hb210, hE215, hp213⟩
      obtain ⟨b216, rfl⟩ := toMk hE215
      clear hE215
      clear hd214
      refine WP.test (p := ((¬ (ec51 = 1))) ∨ ((ec51 = 1) ∧ (¬ ((cc49.N = 0) ∧ ((cc49.K = 0) ∧ (cc49.Delta = 0))))) ∨ ((ec51 = 1) ∧ ((cc49.N = 0) ∧ ((cc49.K = 0) ∧ (cc49.Delta = 0))) ∧ (¬ (nc50 = 0)))) rfl hb210 (fun h217 => ?_) (fun h217 => ?_)
      · refine WP.seq ?_
        refine WP.pure {} [] [6] [.bool false] .nil (by kernel_rfl) (fun b218 => ?_)
        refine thn_n ?_
        refine WP.ret ?_
        refine blk_r ?_
        refine thn_r ?_
        refine bodyQ.of _ rfl [.bool false] ⟨rfl, trivial⟩ ?_
        exfalso
        rw [line_conf] at hc52
        obtain ⟨f1, f2, f3⟩ := ConfR.of (a := (c.N.tmod 1000000)) (b := (c.K.tmod 1000000)) (g := (c.Delta.tmod 1000000)) (d := (clients.tmod 1000000)) ⟨by omega, by omega⟩ ⟨by omega, by omega⟩ ⟨by omega, by omega⟩ ⟨by omega, by omega⟩ hc52
        have hok : okCfg ⟨(c.N.tmod 1000000), (c.K.tmod 1000000), (c.Delta.tmod 1000000)⟩ := Classical.byContradiction fun q => absurd ((qChk_no q).symm.trans h67) (by decide)
        obtain ⟨q1, q2, q3⟩ := f2 hok (by omega)
        simp [q1, q2, q3] at h217
      · refine WP.skip ?_
        refine blk_n ?_
        refine thn_n ?_
        refine WP.seq ?_
        refine WP.region _ rfl (by kernel_rfl) ?_
        refine OPS.cons (opStep.call (some 100) [.string ⟨#[99, 111, 110, 102, 105, 103, 32, 51, 32, 49, 32, 48, 32, 50]⟩] (by kernel_rfl) (sc_Config (⟨#[99, 111, 110, 102, 105, 103, 32, 51, 32, 49, 32, 48, 32, 50]⟩ : ByteArray) (by first | omega | (simp only [ByteArray.size_append, sz32, szcf, szc2]; omega)) _ (hl.fram hp213.fr)) ?_)
        rintro _ w221 ⟨cc224, nc225, ec226, rfl, hc227, hf222⟩
        refine ⟨_, rfl, ?_⟩
        have hp223 := hp213.step hf222
        refine OPS.batch 4 {} [] [2, 7, 101, 102, 103] [.string behind, .string ((((((((⟨#[99, 111, 110, 102, 105, 103, 32]⟩ : ByteArray) ++ (itoaT (c.N.tmod 1000000))) ++ (⟨#[32]⟩ : ByteArray)) ++ (itoaT (c.K.tmod 1000000))) ++ (⟨#[32]⟩ : ByteArray)) ++ (itoaT (c.Delta.tmod 1000000))) ++ (⟨#[32]⟩ : ByteArray)) ++ (itoaT (clients.tmod 1000000))), GConfig.val cc224, .int .i64 nc225, .int .i64 ec226] .nil (by kernel_rfl) (fun b228 => ?_)
        refine OPS.cons (opStep.alloc hp223 [.int .i64 0, .int .i64 0, .int .i64 0] (by kernel_rfl) (fun g231 w229 hp230 => ?_))
        refine OPS.cons (opStep.store0 hp230 rfl [.int .i64 cc224.N, .int .i64 cc224.K, .int .i64 cc224.Delta] [.int .i64 cc224.N, .int .i64 cc224.K, .int .i64 cc224.Delta] (by kernel_rfl) (fun w232 hp233 => ?_))
        refine OPS.batch 2 {} [] [2, 7, 11, 12, 13] [.string behind, .string ((((((((⟨#[99, 111, 110, 102, 105, 103, 32]⟩ : ByteArray) ++ (itoaT (c.N.tmod 1000000))) ++ (⟨#[32]⟩ : ByteArray)) ++ (itoaT (c.K.tmod 1000000))) ++ (⟨#[32]⟩ : ByteArray)) ++ (itoaT (c.Delta.tmod 1000000))) ++ (⟨#[32]⟩ : ByteArray)) ++ (itoaT (clients.tmod 1000000))), .pointer (some ⟨g231, 0, none⟩), .int .i64 nc225, .int .i64 ec226] .nil (by kernel_rfl) (fun b234 => ?_)
        refine OPS.nil ?_
        refine thn_n ?_
        refine WP.seq ?_
        refine WP.cut (fun e249 w250 => ∃ (x247 : Bool), (True) ∧ Bp x247 (((¬ (ec226 = 0))) ∨ ((ec226 = 0) ∧ (¬ ((cc224.N = 3) ∧ ((cc224.K = 1) ∧ (cc224.Delta = 0))))) ∨ ((ec226 = 0) ∧ ((cc224.N = 3) ∧ ((cc224.K = 1) ∧ (cc224.Delta = 0))) ∧ (¬ (nc225 = 2)))) ∧ List.map e249 [2, 7, 114] = [.string behind, .string ((((((((⟨#[99, 111, 110, 102, 105, 103, 32]⟩ : ByteArray) ++ (itoaT (c.N.tmod 1000000))) ++ (⟨#[32]⟩ : ByteArray)) ++ (itoaT (c.K.tmod 1000000))) ++ (⟨#[32]⟩ : ByteArray)) ++ (itoaT (c.Delta.tmod 1000000))) ++ (⟨#[32]⟩ : ByteArray)) ++ (itoaT (clients.tmod 1000000))), .bool x247] ∧ Hp w Non [Res.row g231 [.int .i64 cc224.N, .int .i64 cc224.K, .int .i64 cc224.Delta] 40, Res.row g56 [.int .i64 cc49.N, .int .i64 cc49.K, .int .i64 cc49.Delta] 40, Res.row g3 [.int .i64 (c.N.tmod 1000000), .int .i64 (c.K.tmod 1000000), .int .i64 (c.Delta.tmod 1000000)] 40] w250) ?_ ?_
        · refine WP.region _ rfl (by kernel_rfl) ?_
          refine OPS.batch 3 {} [] [2, 7, 11, 12, 106] [.string behind, .string ((((((((⟨#[99, 111, 110, 102, 105, 103, 32]⟩ : ByteArray) ++ (itoaT (c.N.tmod 1000000))) ++ (⟨#[32]⟩ : ByteArray)) ++ (itoaT (c.K.tmod 1000000))) ++ (⟨#[32]⟩ : ByteArray)) ++ (itoaT (c.Delta.tmod 1000000))) ++ (⟨#[32]⟩ : ByteArray)) ++ (itoaT (clients.tmod 1000000))), .pointer (some ⟨g231, 0, none⟩), .int .i64 nc225, .bool (decide (¬ (ec226 = 0)))] .nil (by kernel_rfl) (fun b236 => ?_)
          by_cases h237 : ec226 = 0
          · refine OPS.batch 0 {} [] [2, 7, 11, 12, 106] [.string behind, .string ((((((((⟨#[99, 111, 110, 102, 105, 103, 32]⟩ : ByteArray) ++ (itoaT (c.N.tmod 1000000))) ++ (⟨#[32]⟩ : ByteArray)) ++ (itoaT (c.K.tmod 1000000))) ++ (⟨#[32]⟩ : ByteArray)) ++ (itoaT (c.Delta.tmod 1000000))) ++ (⟨#[32]⟩ : ByteArray)) ++ (itoaT (clients.tmod 1000000))), .pointer (some ⟨g231, 0, none⟩), .int .i64 nc225, .bool (decide (¬ (ec226 = 0)))] .nil (by kernel_rfl) (fun b240 => ?_)
            refine OPS.re [.string behind, .string ((((((((⟨#[99, 111, 110, 102, 105, 103, 32]⟩ : ByteArray) ++ (itoaT (c.N.tmod 1000000))) ++ (⟨#[32]⟩ : ByteArray)) ++ (itoaT (c.K.tmod 1000000))) ++ (⟨#[32]⟩ : ByteArray)) ++ (itoaT (c.Delta.tmod 1000000))) ++ (⟨#[32]⟩ : ByteArray)) ++ (itoaT (clients.tmod 1000000))), .pointer (some ⟨g231, 0, none⟩), .int .i64 nc225, .bool false] (by rw [show (decide (¬ (ec226 = 0))) = false from Bp.dec.ff (fun k => k h237)]) ?_
            refine OPS.batch 5 { wraps := [110] } [GConfig.val cc224] [2, 7, 12, 111] [.string behind, .string ((((((((⟨#[99, 111, 110, 102, 105, 103, 32]⟩ : ByteArray) ++ (itoaT (c.N.tmod 1000000))) ++ (⟨#[32]⟩ : ByteArray)) ++ (itoaT (c.K.tmod 1000000))) ++ (⟨#[32]⟩ : ByteArray)) ++ (itoaT (c.Delta.tmod 1000000))) ++ (⟨#[32]⟩ : ByteArray)) ++ (itoaT (clients.tmod 1000000))), .int .i64 nc225, .bool (!((decide (cc224.N = 3)) && ((decide (cc224.K = 1)) && ((decide (cc224.Delta = 0)) && true))))] (.cons (show Ld Tryd.prog w232 40 ⟨g231, 0, none⟩ (GConfig.val cc224) from Ld.rowN (cs := [.int .i64 cc224.N, .int .i64 cc224.K, .int .i64 cc224.Delta]) hp233.get0 (by kernel_rfl)) .nil) (by kernel_rfl) (fun b241 => ?_)
            by_cases h242 : (cc224.N = 3) ∧ ((cc224.K = 1) ∧ (cc224.Delta = 0))
            · refine OPS.batch 0 {} [] [2, 7, 12, 111] [.string behind, .string ((((((((⟨#[99, 111, 110, 102, 105, 103, 32]⟩ : ByteArray) ++ (itoaT (c.N.tmod 1000000))) ++ (⟨#[32]⟩ : ByteArray)) ++ (itoaT (c.K.tmod 1000000))) ++ (⟨#[32]⟩ : ByteArray)) ++ (itoaT (c.Delta.tmod 1000000))) ++ (⟨#[32]⟩ : ByteArray)) ++ (itoaT (clients.tmod 1000000))), .int .i64 nc225, .bool (!((decide (cc224.N = 3)) && ((decide (cc224.K = 1)) && ((decide (cc224.Delta = 0)) && true))))] .nil (by kernel_rfl) (fun b245 => ?_)
              refine OPS.re [.string behind, .string ((((((((⟨#[99, 111, 110, 102, 105, 103, 32]⟩ : ByteArray) ++ (itoaT (c.N.tmod 1000000))) ++ (⟨#[32]⟩ : ByteArray)) ++ (itoaT (c.K.tmod 1000000))) ++ (⟨#[32]⟩ : ByteArray)) ++ (itoaT (c.Delta.tmod 1000000))) ++ (⟨#[32]⟩ : ByteArray)) ++ (itoaT (clients.tmod 1000000))), .int .i64 nc225, .bool false] (by rw [show (!((decide (cc224.N = 3)) && ((decide (cc224.K = 1)) && ((decide (cc224.Delta = 0)) && true)))) = false from (Bp.not (Bp.band Bp.dec (Bp.band Bp.dec (Bp.band1 Bp.dec)))).ff (fun k => k h242)]) ?_
              refine OPS.batch 3 { wraps := [114] } [] [2, 7, 114] [.string behind, .string ((((((((⟨#[99, 111, 110, 102, 105, 103, 32]⟩ : ByteArray) ++ (itoaT (c.N.tmod 1000000))) ++ (⟨#[32]⟩ : ByteArray)) ++ (itoaT (c.K.tmod 1000000))) ++ (⟨#[32]⟩ : ByteArray)) ++ (itoaT (c.Delta.tmod 1000000))) ++ (⟨#[32]⟩ : ByteArray)) ++ (itoaT (clients.tmod 1000000))), .bool (decide (¬ (nc225 = 2)))] .nil (by kernel_rfl) (fun b246 => ?_)
              refine OPS.nil ?_
              refine thn_n ?_
              exact ⟨decide (¬ (nc225 = 2)), trivial, Bp.of Bp.dec (by first | (simp only [h237, h242, iff_false, false_iff, iff_true, true_iff, Classical.not_not, and_true, true_and, and_false, false_and, or_true, true_or, or_false, false_or, not_true_eq_false, not_false_eq_true, and_self, or_self, iff_self]; done) | (simp [h237, h242]; done) | simp_all), by kernel_rfl, hp233⟩
            · refine OPS.batch 0 {} [] [2, 7, 12, 111] [.string behind, .string ((((((((⟨#[99, 111, 110, 102, 105, 103, 32]⟩ : ByteArray) ++ (itoaT (c.N.tmod 1000000))) ++ (⟨#[32]⟩ : ByteArray)) ++ (itoaT (c.K.tmod 1000000))) ++ (⟨#[32]⟩ : ByteArray)) ++ (itoaT (c.Delta.tmod 1000000))) ++ (⟨#[32]⟩ : ByteArray)) ++ (itoaT (clients.tmod 1000000))), .int .i64 nc225, .bool (!((decide (cc224.N = 3)) && ((decide (cc224.K = 1)) && ((decide (cc224.Delta = 0)) && true))))] .nil (by kernel_rfl) (fun b243 => ?_)
              refine OPS.re [.string behind, .string ((((((((⟨#[99, 111, 110, 102, 105, 103, 32]⟩ : ByteArray) ++ (itoaT (c.N.tmod 1000000))) ++ (⟨#[32]⟩ : ByteArray)) ++ (itoaT (c.K.tmod 1000000))) ++ (⟨#[32]⟩ : ByteArray)) ++ (itoaT (c.Delta.tmod 1000000))) ++ (⟨#[32]⟩ : ByteArray)) ++ (itoaT (clients.tmod 1000000))), .int .i64 nc225, .bool true] (by rw [show (!((decide (cc224.N = 3)) && ((decide (cc224.K = 1)) && ((decide (cc224.Delta = 0)) && true)))) = true from (Bp.not (Bp.band Bp.dec (Bp.band Bp.dec (Bp.band1 Bp.dec)))).tt h242]) ?_
              refine OPS.batch 3 { wraps := [114] } [] [2, 7, 114] [.string behind, .string ((((((((⟨#[99, 111, 110, 102, 105, 103, 32]⟩ : ByteArray) ++ (itoaT (c.N.tmod 1000000))) ++ (⟨#[32]⟩ : ByteArray)) ++ (itoaT (c.K.tmod 1000000))) ++ (⟨#[32]⟩ : ByteArray)) ++ (itoaT (c.Delta.tmod 1000000))) ++ (⟨#[32]⟩ : ByteArray)) ++ (itoaT (clients.tmod 1000000))), .bool true] .nil (by kernel_rfl) (fun b244 => ?_)
              refine OPS.nil ?_
              refine thn_n ?_
              exact ⟨true, trivial, Bp.of Bp.t (by first | (simp only [h237, h242, iff_false, false_iff, iff_true, true_iff, Classical.not_not, and_true, true_and, and_false, false_and, or_true, true_or, or_false, false_or, not_true_eq_false, not_false_eq_true, and_self, or_self, iff_self]; done) | (simp [h237, h242]; done) | simp_all), by kernel_rfl, hp233⟩
          · refine OPS.batch 0 {} [] [2, 7, 11, 12, 106] [.string behind, .string ((((((((⟨#[99, 111, 110, 102, 105, 103, 32]⟩ : ByteArray) ++ (itoaT (c.N.tmod 1000000))) ++ (⟨#[32]⟩ : ByteArray)) ++ (itoaT (c.K.tmod 1000000))) ++ (⟨#[32]⟩ : ByteArray)) ++ (itoaT (c.Delta.tmod 1000000))) ++ (⟨#[32]⟩ : ByteArray)) ++ (itoaT (clients.tmod 1000000))), .pointer (some ⟨g231, 0, none⟩), .int .i64 nc225, .bool (decide (¬ (ec226 = 0)))] .nil (by kernel_rfl) (fun b238 => ?_)
            refine OPS.re [.string behind, .string ((((((((⟨#[99, 111, 110, 102, 105, 103, 32]⟩ : ByteArray) ++ (itoaT (c.N.tmod 1000000))) ++ (⟨#[32]⟩ : ByteArray)) ++ (itoaT (c.K.tmod 1000000))) ++ (⟨#[32]⟩ : ByteArray)) ++ (itoaT (c.Delta.tmod 1000000))) ++ (⟨#[32]⟩ : ByteArray)) ++ (itoaT (clients.tmod 1000000))), .pointer (some ⟨g231, 0, none⟩), .int .i64 nc225, .bool true] (by rw [show (decide (¬ (ec226 = 0))) = true from Bp.dec.tt h237]) ?_
            refine OPS.batch 8 { wraps := [110, 114] } [] [2, 7, 114] [.string behind, .string ((((((((⟨#[99, 111, 110, 102, 105, 103, 32]⟩ : ByteArray) ++ (itoaT (c.N.tmod 1000000))) ++ (⟨#[32]⟩ : ByteArray)) ++ (itoaT (c.K.tmod 1000000))) ++ (⟨#[32]⟩ : ByteArray)) ++ (itoaT (c.Delta.tmod 1000000))) ++ (⟨#[32]⟩ : ByteArray)) ++ (itoaT (clients.tmod 1000000))), .bool true] .nil (by kernel_rfl) (fun b239 => ?_)
            refine OPS.nil ?_
            refine thn_n ?_
            exact ⟨true, trivial, Bp.of Bp.t (by first | (simp only [h237, iff_false, false_iff, iff_true, true_iff, Classical.not_not, and_true, true_and, and_false, false_and, or_true, true_or, or_false, false_or, not_true_eq_false, not_false_eq_true, and_self, or_self, iff_self]; done) | (simp [h237]; done) | simp_all), by kernel_rfl, hp233⟩
        rintro e249 w250 ⟨x247, hd252, hb248, hE253, hp251⟩
        obtain ⟨b254, rfl⟩ := toMk hE253
        clear hE253
        clear hd252
        refine WP.test (p := ((¬ (ec226 = 0))) ∨ ((ec226 = 0) ∧ (¬ ((cc224.N = 3) ∧ ((cc224.K = 1) ∧ (cc224.Delta = 0))))) ∨ ((ec226 = 0) ∧ ((cc224.N = 3) ∧ ((cc224.K = 1) ∧ (cc224.Delta = 0))) ∧ (¬ (nc225 = 2)))) rfl hb248 (fun h255 => ?_) (fun h255 => ?_)
        · refine WP.seq ?_
          refine WP.pure {} [] [6] [.bool false] .nil (by kernel_rfl) (fun b256 => ?_)
          refine thn_n ?_
          refine WP.ret ?_
          refine thn_r ?_
          refine bodyQ.of _ rfl [.bool false] ⟨rfl, trivial⟩ ?_
          exfalso
          have hcc := hc227
          rw [← conf_3102] at hcc
          obtain ⟨_, _, f3⟩ := ConfR.of (a := 3) (b := 1) (g := 0) (d := 2) ⟨by omega, by omega⟩ ⟨by omega, by omega⟩ ⟨by omega, by omega⟩ ⟨by omega, by omega⟩ hcc
          obtain ⟨q1, q2, q3⟩ := f3 (by decide) (by omega)
          simp [q1, q2, q3] at h255
        · refine WP.skip ?_
          refine thn_n ?_
          refine WP.seq ?_
          refine WP.seq ?_
          refine WP.pure {} [] [2, 7, 14] [.string behind, .string ((((((((⟨#[99, 111, 110, 102, 105, 103, 32]⟩ : ByteArray) ++ (itoaT (c.N.tmod 1000000))) ++ (⟨#[32]⟩ : ByteArray)) ++ (itoaT (c.K.tmod 1000000))) ++ (⟨#[32]⟩ : ByteArray)) ++ (itoaT (c.Delta.tmod 1000000))) ++ (⟨#[32]⟩ : ByteArray)) ++ (itoaT (clients.tmod 1000000))), .int .i64 0] .nil (by kernel_rfl) (fun b257 => ?_)
          refine thn_n ?_
          refine WP.block ?_
          refine WP.loop (fun mz_ e258 w259 => ∃ (k : Nat), mz_ = behind.size - k ∧ (k ≤ behind.size ∧ ∀ i : Nat, i < k → ¬ (48 ≤ byteAt behind i ∧ byteAt behind i ≤ 57)) ∧ List.map e258 [2, 7, 14] = [.string behind, .string ((((((((⟨#[99, 111, 110, 102, 105, 103, 32]⟩ : ByteArray) ++ (itoaT (c.N.tmod 1000000))) ++ (⟨#[32]⟩ : ByteArray)) ++ (itoaT (c.K.tmod 1000000))) ++ (⟨#[32]⟩ : ByteArray)) ++ (itoaT (c.Delta.tmod 1000000))) ++ (⟨#[32]⟩ : ByteArray)) ++ (itoaT (clients.tmod 1000000))), .int .i64 (k : Int)] ∧ Hp w Non [Res.row g231 [.int .i64 cc224.N, .int .i64 cc224.K, .int .i64 cc224.Delta] 40, Res.row g56 [.int .i64 cc49.N, .int .i64 cc49.K, .int .i64 cc49.Delta] 40, Res.row g3 [.int .i64 (c.N.tmod 1000000), .int .i64 (c.K.tmod 1000000), .int .i64 (c.Delta.tmod 1000000)] 40] w259) (behind.size - (0)) ⟨0, rfl, ⟨by omega, fun i hi => by omega⟩, by kernel_rfl, hp251⟩ ?_
          rintro _ e258 w259 ⟨k, rfl, hI261, hE262, hp260⟩
          obtain ⟨b263, rfl⟩ := toMk hE262
          clear hE262
          obtain ⟨pa, pd⟩ := hI261
          refine WP.seq ?_
          refine WP.seq ?_
          refine WP.pure {} [] [2, 7, 14, 118] [.string behind, .string ((((((((⟨#[99, 111, 110, 102, 105, 103, 32]⟩ : ByteArray) ++ (itoaT (c.N.tmod 1000000))) ++ (⟨#[32]⟩ : ByteArray)) ++ (itoaT (c.K.tmod 1000000))) ++ (⟨#[32]⟩ : ByteArray)) ++ (itoaT (c.Delta.tmod 1000000))) ++ (⟨#[32]⟩ : ByteArray)) ++ (itoaT (clients.tmod 1000000))), .int .i64 (k : Int), .bool (decide ((k : Int) < (behind.size : Int)))] .nil (by kernel_rfl) (fun b264 => ?_)
          refine thn_n ?_
          refine WP.test (p := (k : Int) < (behind.size : Int)) rfl Bp.dec (fun h265 => ?_) (fun h265 => ?_)
          · refine WP.skip ?_
            refine thn_n ?_
            refine WP.seq ?_
            refine WP.block ?_
            refine WP.cut (fun e275 w276 => ∃ (x273 : Bool), (True) ∧ Bp x273 ((48 ≤ (byteAt behind ((k : Int)))) ∧ ((byteAt behind ((k : Int))) ≤ 57)) ∧ List.map e275 [2, 7, 14, 130] = [.string behind, .string ((((((((⟨#[99, 111, 110, 102, 105, 103, 32]⟩ : ByteArray) ++ (itoaT (c.N.tmod 1000000))) ++ (⟨#[32]⟩ : ByteArray)) ++ (itoaT (c.K.tmod 1000000))) ++ (⟨#[32]⟩ : ByteArray)) ++ (itoaT (c.Delta.tmod 1000000))) ++ (⟨#[32]⟩ : ByteArray)) ++ (itoaT (clients.tmod 1000000))), .int .i64 (k : Int), .bool x273] ∧ Hp w Non [Res.row g231 [.int .i64 cc224.N, .int .i64 cc224.K, .int .i64 cc224.Delta] 40, Res.row g56 [.int .i64 cc49.N, .int .i64 cc49.K, .int .i64 cc49.Delta] 40, Res.row g3 [.int .i64 (c.N.tmod 1000000), .int .i64 (c.K.tmod 1000000), .int .i64 (c.Delta.tmod 1000000)] 40] w276) ?_ ?_
            · refine WP.region _ rfl (by kernel_rfl) ?_
              refine OPS.batch 5 {} [] [2, 7, 14, 125] [.string behind, .string ((((((((⟨#[99, 111, 110, 102, 105, 103, 32]⟩ : ByteArray) ++ (itoaT (c.N.tmod 1000000))) ++ (⟨#[32]⟩ : ByteArray)) ++ (itoaT (c.K.tmod 1000000))) ++ (⟨#[32]⟩ : ByteArray)) ++ (itoaT (c.Delta.tmod 1000000))) ++ (⟨#[32]⟩ : ByteArray)) ++ (itoaT (clients.tmod 1000000))), .int .i64 (k : Int), .bool (decide (48 ≤ (byteAt behind ((k : Int)))))] (.cons (show InB ((k : Int)) behind.size from ⟨by first | omega | (simp only [ByteArray.size_append, sz32, szcf, szc2]; omega), by first | omega | (simp only [ByteArray.size_append, sz32, szcf, szc2]; omega)⟩) .nil) (by kernel_rfl) (fun b267 => ?_)
              by_cases h268 : 48 ≤ (byteAt behind ((k : Int)))
              · refine OPS.batch 0 {} [] [2, 7, 14, 125] [.string behind, .string ((((((((⟨#[99, 111, 110, 102, 105, 103, 32]⟩ : ByteArray) ++ (itoaT (c.N.tmod 1000000))) ++ (⟨#[32]⟩ : ByteArray)) ++ (itoaT (c.K.tmod 1000000))) ++ (⟨#[32]⟩ : ByteArray)) ++ (itoaT (c.Delta.tmod 1000000))) ++ (⟨#[32]⟩ : ByteArray)) ++ (itoaT (clients.tmod 1000000))), .int .i64 (k : Int), .bool (decide (48 ≤ (byteAt behind ((k : Int)))))] .nil (by kernel_rfl) (fun b269 => ?_)
                refine OPS.re [.string behind, .string ((((((((⟨#[99, 111, 110, 102, 105, 103, 32]⟩ : ByteArray) ++ (itoaT (c.N.tmod 1000000))) ++ (⟨#[32]⟩ : ByteArray)) ++ (itoaT (c.K.tmod 1000000))) ++ (⟨#[32]⟩ : ByteArray)) ++ (itoaT (c.Delta.tmod 1000000))) ++ (⟨#[32]⟩ : ByteArray)) ++ (itoaT (clients.tmod 1000000))), .int .i64 (k : Int), .bool true] (by rw [show (decide (48 ≤ (byteAt behind ((k : Int))))) = true from Bp.dec.tt h268]) ?_
                refine OPS.batch 5 { wraps := [130] } [] [2, 7, 14, 130] [.string behind, .string ((((((((⟨#[99, 111, 110, 102, 105, 103, 32]⟩ : ByteArray) ++ (itoaT (c.N.tmod 1000000))) ++ (⟨#[32]⟩ : ByteArray)) ++ (itoaT (c.K.tmod 1000000))) ++ (⟨#[32]⟩ : ByteArray)) ++ (itoaT (c.Delta.tmod 1000000))) ++ (⟨#[32]⟩ : ByteArray)) ++ (itoaT (clients.tmod 1000000))), .int .i64 (k : Int), .bool (decide ((byteAt behind ((k : Int))) ≤ 57))] (.cons (show InB ((k : Int)) behind.size from ⟨by first | omega | (simp only [ByteArray.size_append, sz32, szcf, szc2]; omega), by first | omega | (simp only [ByteArray.size_append, sz32, szcf, szc2]; omega)⟩) .nil) (by kernel_rfl) (fun b270 => ?_)
                refine OPS.nil ?_
                refine thn_n ?_
                exact ⟨decide ((byteAt behind ((k : Int))) ≤ 57), trivial, Bp.of Bp.dec (by first | (simp only [h268, iff_false, false_iff, iff_true, true_iff, Classical.not_not, and_true, true_and, and_false, false_and, or_true, true_or, or_false, false_or, not_true_eq_false, not_false_eq_true, and_self, or_self, iff_self]; done) | (simp [h268]; done) | simp_all), by kernel_rfl, hp260⟩
              · refine OPS.batch 0 {} [] [2, 7, 14, 125] [.string behind, .string ((((((((⟨#[99, 111, 110, 102, 105, 103, 32]⟩ : ByteArray) ++ (itoaT (c.N.tmod 1000000))) ++ (⟨#[32]⟩ : ByteArray)) ++ (itoaT (c.K.tmod 1000000))) ++ (⟨#[32]⟩ : ByteArray)) ++ (itoaT (c.Delta.tmod 1000000))) ++ (⟨#[32]⟩ : ByteArray)) ++ (itoaT (clients.tmod 1000000))), .int .i64 (k : Int), .bool (decide (48 ≤ (byteAt behind ((k : Int)))))] .nil (by kernel_rfl) (fun b271 => ?_)
                refine OPS.re [.string behind, .string ((((((((⟨#[99, 111, 110, 102, 105, 103, 32]⟩ : ByteArray) ++ (itoaT (c.N.tmod 1000000))) ++ (⟨#[32]⟩ : ByteArray)) ++ (itoaT (c.K.tmod 1000000))) ++ (⟨#[32]⟩ : ByteArray)) ++ (itoaT (c.Delta.tmod 1000000))) ++ (⟨#[32]⟩ : ByteArray)) ++ (itoaT (clients.tmod 1000000))), .int .i64 (k : Int), .bool false] (by rw [show (decide (48 ≤ (byteAt behind ((k : Int))))) = false from Bp.dec.ff h268]) ?_
                refine OPS.batch 5 { wraps := [130] } [] [2, 7, 14, 130] [.string behind, .string ((((((((⟨#[99, 111, 110, 102, 105, 103, 32]⟩ : ByteArray) ++ (itoaT (c.N.tmod 1000000))) ++ (⟨#[32]⟩ : ByteArray)) ++ (itoaT (c.K.tmod 1000000))) ++ (⟨#[32]⟩ : ByteArray)) ++ (itoaT (c.Delta.tmod 1000000))) ++ (⟨#[32]⟩ : ByteArray)) ++ (itoaT (clients.tmod 1000000))), .int .i64 (k : Int), .bool false] .nil (by kernel_rfl) (fun b272 => ?_)
                refine OPS.nil ?_
                refine thn_n ?_
                exact ⟨false, trivial, Bp.of Bp.f (by first | (simp only [h268, iff_false, false_iff, iff_true, true_iff, Classical.not_not, and_true, true_and, and_false, false_and, or_true, true_or, or_false, false_or, not_true_eq_false, not_false_eq_true, and_self, or_self, iff_self]; done) | (simp [h268]; done) | simp_all), by kernel_rfl, hp260⟩
            rintro e275 w276 ⟨x273, hd278, hb274, hE279, hp277⟩
            obtain ⟨b280, rfl⟩ := toMk hE279
            clear hE279
            clear hd278
            refine WP.test (p := (48 ≤ (byteAt behind ((k : Int)))) ∧ ((byteAt behind ((k : Int))) ≤ 57)) rfl hb274 (fun h281 => ?_) (fun h281 => ?_)
            · refine WP.seq ?_
              refine WP.pure {} [] [6] [.bool true] .nil (by kernel_rfl) (fun b282 => ?_)
              refine thn_n ?_
              refine WP.ret ?_
              refine blk_r ?_
              refine thn_r ?_
              refine thn_r ?_
              refine blk_r ?_
              refine thn_r ?_
              refine bodyQ.of _ rfl [.bool true] ⟨rfl, trivial⟩ ?_
              exact ⟨rfl, hp277.fr⟩
            · refine WP.skip ?_
              refine blk_n ?_
              refine thn_n ?_
              refine WP.pure {} [] [2, 7, 14] [.string behind, .string ((((((((⟨#[99, 111, 110, 102, 105, 103, 32]⟩ : ByteArray) ++ (itoaT (c.N.tmod 1000000))) ++ (⟨#[32]⟩ : ByteArray)) ++ (itoaT (c.K.tmod 1000000))) ++ (⟨#[32]⟩ : ByteArray)) ++ (itoaT (c.Delta.tmod 1000000))) ++ (⟨#[32]⟩ : ByteArray)) ++ (itoaT (clients.tmod 1000000))), .int .i64 ((k : Int) + 1)] (.cons (show Rng .i64 ((k : Int) + 1) from Rng.i64 (by first | omega | (simp only [ByteArray.size_append, sz32, szcf, szc2]; omega))) .nil) (by kernel_rfl) (fun b283 => ?_)
              refine thn_n ?_
              exact ⟨behind.size - (k + 1), (by omega), k + 1, rfl, ⟨by omega, fun i hi => by by_cases e : i = k; subst e; omega; exact pd i (by omega)⟩, by kernel_rfl, hp277⟩
          · refine WP.exit ?_
            refine thn_x ?_
            refine thn_x ?_
            refine blk_hit ?_
            refine thn_n ?_
            refine WP.seq ?_
            refine WP.region _ rfl (by kernel_rfl) ?_
            refine OPS.batch 3 {} [] [2, 134] [.string behind, .string (((((((((⟨#[99, 111, 110, 102, 105, 103, 32]⟩ : ByteArray) ++ (itoaT (c.N.tmod 1000000))) ++ (⟨#[32]⟩ : ByteArray)) ++ (itoaT (c.K.tmod 1000000))) ++ (⟨#[32]⟩ : ByteArray)) ++ (itoaT (c.Delta.tmod 1000000))) ++ (⟨#[32]⟩ : ByteArray)) ++ (itoaT (clients.tmod 1000000))) ++ behind)] (.cons (show ((((((((⟨#[99, 111, 110, 102, 105, 103, 32]⟩ : ByteArray) ++ (itoaT (c.N.tmod 1000000))) ++ (⟨#[32]⟩ : ByteArray)) ++ (itoaT (c.K.tmod 1000000))) ++ (⟨#[32]⟩ : ByteArray)) ++ (itoaT (c.Delta.tmod 1000000))) ++ (⟨#[32]⟩ : ByteArray)) ++ (itoaT (clients.tmod 1000000))).size + behind.size ≤ 9223372036854775807 from by first | omega | (simp only [ByteArray.size_append, sz32, szcf, szc2]; omega)) .nil) (by kernel_rfl) (fun b284 => ?_)
            refine OPS.cons (opStep.call (some 135) [.string (((((((((⟨#[99, 111, 110, 102, 105, 103, 32]⟩ : ByteArray) ++ (itoaT (c.N.tmod 1000000))) ++ (⟨#[32]⟩ : ByteArray)) ++ (itoaT (c.K.tmod 1000000))) ++ (⟨#[32]⟩ : ByteArray)) ++ (itoaT (c.Delta.tmod 1000000))) ++ (⟨#[32]⟩ : ByteArray)) ++ (itoaT (clients.tmod 1000000))) ++ behind)] (by kernel_rfl) (sc_Config (((((((((⟨#[99, 111, 110, 102, 105, 103, 32]⟩ : ByteArray) ++ (itoaT (c.N.tmod 1000000))) ++ (⟨#[32]⟩ : ByteArray)) ++ (itoaT (c.K.tmod 1000000))) ++ (⟨#[32]⟩ : ByteArray)) ++ (itoaT (c.Delta.tmod 1000000))) ++ (⟨#[32]⟩ : ByteArray)) ++ (itoaT (clients.tmod 1000000))) ++ behind) (by first | omega | (simp only [ByteArray.size_append, sz32, szcf, szc2]; omega)) _ (hl.fram hp260.fr)) ?_)
            rintro _ w287 ⟨cc290, nc291, ec292, rfl, hc293, hf288⟩
            refine ⟨_, rfl, ?_⟩
            have hp289 := hp260.step hf288
            refine OPS.batch 5 {} [] [2, 13] [.string behind, .int .i64 ec292] .nil (by kernel_rfl) (fun b294 => ?_)
            refine OPS.nil ?_
            refine thn_n ?_
            refine WP.cut (fun e304 w305 => ∃ (x302 : Bool), (True) ∧ Bp x302 (((behind = ⟨#[]⟩)) ∨ ((¬ (behind = ⟨#[]⟩)) ∧ (ec292 = 82))) ∧ List.map e304 [6] = [.bool x302] ∧ Hp w Non [Res.row g231 [.int .i64 cc224.N, .int .i64 cc224.K, .int .i64 cc224.Delta] 40, Res.row g56 [.int .i64 cc49.N, .int .i64 cc49.K, .int .i64 cc49.Delta] 40, Res.row g3 [.int .i64 (c.N.tmod 1000000), .int .i64 (c.K.tmod 1000000), .int .i64 (c.Delta.tmod 1000000)] 40] w305) ?_ ?_
            · refine WP.region _ rfl (by kernel_rfl) ?_
              refine OPS.batch 3 {} [] [13, 141] [.int .i64 ec292, .bool (decide (behind = ⟨#[]⟩))] .nil (by kernel_rfl) (fun b296 => ?_)
              by_cases h297 : behind = ⟨#[]⟩
              · refine OPS.batch 0 {} [] [13, 141] [.int .i64 ec292, .bool (decide (behind = ⟨#[]⟩))] .nil (by kernel_rfl) (fun b298 => ?_)
                refine OPS.re [.int .i64 ec292, .bool true] (by rw [show (decide (behind = ⟨#[]⟩)) = true from Bp.dec.tt h297]) ?_
                refine OPS.batch 4 { wraps := [144] } [] [6] [.bool true] .nil (by kernel_rfl) (fun b299 => ?_)
                refine OPS.nil ?_
                refine thn_n ?_
                exact ⟨true, trivial, Bp.of Bp.t (by first | (simp only [h297, iff_false, false_iff, iff_true, true_iff, Classical.not_not, and_true, true_and, and_false, false_and, or_true, true_or, or_false, false_or, not_true_eq_false, not_false_eq_true, and_self, or_self, iff_self]; done) | (simp [h297]; done) | simp_all), by kernel_rfl, hp289⟩
              · refine OPS.batch 0 {} [] [13, 141] [.int .i64 ec292, .bool (decide (behind = ⟨#[]⟩))] .nil (by kernel_rfl) (fun b300 => ?_)
                refine OPS.re [.int .i64 ec292, .bool false] (by rw [show (decide (behind = ⟨#[]⟩)) = false from Bp.dec.ff h297]) ?_
                refine OPS.batch 4 { wraps := [144] } [] [6] [.bool (decide (ec292 = 82))] .nil (by kernel_rfl) (fun b301 => ?_)
                refine OPS.nil ?_
                refine thn_n ?_
                exact ⟨decide (ec292 = 82), trivial, Bp.of Bp.dec (by first | (simp only [h297, iff_false, false_iff, iff_true, true_iff, Classical.not_not, and_true, true_and, and_false, false_and, or_true, true_or, or_false, false_or, not_true_eq_false, not_false_eq_true, and_self, or_self, iff_self]; done) | (simp [h297]; done) | simp_all), by kernel_rfl, hp289⟩
            rintro e304 w305 ⟨x302, hd307, hb303, hE308, hp306⟩
            obtain ⟨b309, rfl⟩ := toMk hE308
            clear hE308
            clear hd307
            refine WP.ret ?_
            refine bodyQ.of _ rfl [.bool x302] ⟨rfl, trivial⟩ ?_
            exact ⟨congrArg (fun b => Ending.returned (.bool b)) (Bp.tt hb303 (by by_cases hb : behind = (⟨#[]⟩ : ByteArray); exact .inl hb; exact .inr ⟨hb, conf_zero hc293 (conf_behind hb (fun i hi => pd i (by omega)))⟩)), hp306.fr⟩
    · refine WP.cut (fun e324 w325 => ∃ (x322 : Bool), (True) ∧ Bp x322 (((¬ (ec51 = 0))) ∨ ((ec51 = 0) ∧ (¬ ((cc49.N = (c.N.tmod 1000000)) ∧ ((cc49.K = (c.K.tmod 1000000)) ∧ (cc49.Delta = (c.Delta.tmod 1000000)))))) ∨ ((ec51 = 0) ∧ ((cc49.N = (c.N.tmod 1000000)) ∧ ((cc49.K = (c.K.tmod 1000000)) ∧ (cc49.Delta = (c.Delta.tmod 1000000)))) ∧ (¬ (nc50 = (clients.tmod 1000000))))) ∧ List.map e324 [2, 7, 86] = [.string behind, .string ((((((((⟨#[99, 111, 110, 102, 105, 103, 32]⟩ : ByteArray) ++ (itoaT (c.N.tmod 1000000))) ++ (⟨#[32]⟩ : ByteArray)) ++ (itoaT (c.K.tmod 1000000))) ++ (⟨#[32]⟩ : ByteArray)) ++ (itoaT (c.Delta.tmod 1000000))) ++ (⟨#[32]⟩ : ByteArray)) ++ (itoaT (clients.tmod 1000000))), .bool x322] ∧ Hp w Non [Res.row g56 [.int .i64 cc49.N, .int .i64 cc49.K, .int .i64 cc49.Delta] 40, Res.row g3 [.int .i64 (c.N.tmod 1000000), .int .i64 (c.K.tmod 1000000), .int .i64 (c.Delta.tmod 1000000)] 40] w325) ?_ ?_
      · refine WP.region _ rfl (by kernel_rfl) ?_
        refine OPS.batch 3 {} [] [1, 2, 3, 7, 8, 9, 89] [.int .i64 (clients.tmod 1000000), .string behind, .pointer (some ⟨g3, 0, none⟩), .string ((((((((⟨#[99, 111, 110, 102, 105, 103, 32]⟩ : ByteArray) ++ (itoaT (c.N.tmod 1000000))) ++ (⟨#[32]⟩ : ByteArray)) ++ (itoaT (c.K.tmod 1000000))) ++ (⟨#[32]⟩ : ByteArray)) ++ (itoaT (c.Delta.tmod 1000000))) ++ (⟨#[32]⟩ : ByteArray)) ++ (itoaT (clients.tmod 1000000))), .pointer (some ⟨g56, 0, none⟩), .int .i64 nc50, .bool (decide (¬ (ec51 = 0)))] .nil (by kernel_rfl) (fun b311 => ?_)
        by_cases h312 : ec51 = 0
        · refine OPS.batch 0 {} [] [1, 2, 3, 7, 8, 9, 89] [.int .i64 (clients.tmod 1000000), .string behind, .pointer (some ⟨g3, 0, none⟩), .string ((((((((⟨#[99, 111, 110, 102, 105, 103, 32]⟩ : ByteArray) ++ (itoaT (c.N.tmod 1000000))) ++ (⟨#[32]⟩ : ByteArray)) ++ (itoaT (c.K.tmod 1000000))) ++ (⟨#[32]⟩ : ByteArray)) ++ (itoaT (c.Delta.tmod 1000000))) ++ (⟨#[32]⟩ : ByteArray)) ++ (itoaT (clients.tmod 1000000))), .pointer (some ⟨g56, 0, none⟩), .int .i64 nc50, .bool (decide (¬ (ec51 = 0)))] .nil (by kernel_rfl) (fun b315 => ?_)
          refine OPS.re [.int .i64 (clients.tmod 1000000), .string behind, .pointer (some ⟨g3, 0, none⟩), .string ((((((((⟨#[99, 111, 110, 102, 105, 103, 32]⟩ : ByteArray) ++ (itoaT (c.N.tmod 1000000))) ++ (⟨#[32]⟩ : ByteArray)) ++ (itoaT (c.K.tmod 1000000))) ++ (⟨#[32]⟩ : ByteArray)) ++ (itoaT (c.Delta.tmod 1000000))) ++ (⟨#[32]⟩ : ByteArray)) ++ (itoaT (clients.tmod 1000000))), .pointer (some ⟨g56, 0, none⟩), .int .i64 nc50, .bool false] (by rw [show (decide (¬ (ec51 = 0))) = false from Bp.dec.ff (fun k => k h312)]) ?_
          refine OPS.batch 5 { wraps := [93] } [GConfig.val cc49, .agg #[.int .i64 (c.N.tmod 1000000), .int .i64 (c.K.tmod 1000000), .int .i64 (c.Delta.tmod 1000000)]] [1, 2, 7, 9, 94] [.int .i64 (clients.tmod 1000000), .string behind, .string ((((((((⟨#[99, 111, 110, 102, 105, 103, 32]⟩ : ByteArray) ++ (itoaT (c.N.tmod 1000000))) ++ (⟨#[32]⟩ : ByteArray)) ++ (itoaT (c.K.tmod 1000000))) ++ (⟨#[32]⟩ : ByteArray)) ++ (itoaT (c.Delta.tmod 1000000))) ++ (⟨#[32]⟩ : ByteArray)) ++ (itoaT (clients.tmod 1000000))), .int .i64 nc50, .bool (!((decide (cc49.N = (c.N.tmod 1000000))) && ((decide (cc49.K = (c.K.tmod 1000000))) && ((decide (cc49.Delta = (c.Delta.tmod 1000000))) && true))))] (.cons (show Ld Tryd.prog w191 40 ⟨g56, 0, none⟩ (GConfig.val cc49) from Ld.rowN (cs := [.int .i64 cc49.N, .int .i64 cc49.K, .int .i64 cc49.Delta]) hp192.get0 (by kernel_rfl)) (.cons (show Ld Tryd.prog w191 40 ⟨g3, 0, none⟩ (.agg #[.int .i64 (c.N.tmod 1000000), .int .i64 (c.K.tmod 1000000), .int .i64 (c.Delta.tmod 1000000)]) from Ld.rowN (cs := [.int .i64 (c.N.tmod 1000000), .int .i64 (c.K.tmod 1000000), .int .i64 (c.Delta.tmod 1000000)]) hp192.get1 (by kernel_rfl)) .nil)) (by kernel_rfl) (fun b316 => ?_)
          by_cases h317 : (cc49.N = (c.N.tmod 1000000)) ∧ ((cc49.K = (c.K.tmod 1000000)) ∧ (cc49.Delta = (c.Delta.tmod 1000000)))
          · refine OPS.batch 0 {} [] [1, 2, 7, 9, 94] [.int .i64 (clients.tmod 1000000), .string behind, .string ((((((((⟨#[99, 111, 110, 102, 105, 103, 32]⟩ : ByteArray) ++ (itoaT (c.N.tmod 1000000))) ++ (⟨#[32]⟩ : ByteArray)) ++ (itoaT (c.K.tmod 1000000))) ++ (⟨#[32]⟩ : ByteArray)) ++ (itoaT (c.Delta.tmod 1000000))) ++ (⟨#[32]⟩ : ByteArray)) ++ (itoaT (clients.tmod 1000000))), .int .i64 nc50, .bool (!((decide (cc49.N = (c.N.tmod 1000000))) && ((decide (cc49.K = (c.K.tmod 1000000))) && ((decide (cc49.Delta = (c.Delta.tmod 1000000))) && true))))] .nil (by kernel_rfl) (fun b320 => ?_)
            refine OPS.re [.int .i64 (clients.tmod 1000000), .string behind, .string ((((((((⟨#[99, 111, 110, 102, 105, 103, 32]⟩ : ByteArray) ++ (itoaT (c.N.tmod 1000000))) ++ (⟨#[32]⟩ : ByteArray)) ++ (itoaT (c.K.tmod 1000000))) ++ (⟨#[32]⟩ : ByteArray)) ++ (itoaT (c.Delta.tmod 1000000))) ++ (⟨#[32]⟩ : ByteArray)) ++ (itoaT (clients.tmod 1000000))), .int .i64 nc50, .bool false] (by rw [show (!((decide (cc49.N = (c.N.tmod 1000000))) && ((decide (cc49.K = (c.K.tmod 1000000))) && ((decide (cc49.Delta = (c.Delta.tmod 1000000))) && true)))) = false from (Bp.not (Bp.band Bp.dec (Bp.band Bp.dec (Bp.band1 Bp.dec)))).ff (fun k => k h317)]) ?_
            refine OPS.batch 5 { wraps := [98] } [] [2, 7, 86] [.string behind, .string ((((((((⟨#[99, 111, 110, 102, 105, 103, 32]⟩ : ByteArray) ++ (itoaT (c.N.tmod 1000000))) ++ (⟨#[32]⟩ : ByteArray)) ++ (itoaT (c.K.tmod 1000000))) ++ (⟨#[32]⟩ : ByteArray)) ++ (itoaT (c.Delta.tmod 1000000))) ++ (⟨#[32]⟩ : ByteArray)) ++ (itoaT (clients.tmod 1000000))), .bool (decide (¬ (nc50 = (clients.tmod 1000000))))] .nil (by kernel_rfl) (fun b321 => ?_)
            refine OPS.nil ?_
            refine thn_n ?_
            exact ⟨decide (¬ (nc50 = (clients.tmod 1000000))), trivial, Bp.of Bp.dec (by first | (simp only [h312, h317, iff_false, false_iff, iff_true, true_iff, Classical.not_not, and_true, true_and, and_false, false_and, or_true, true_or, or_false, false_or, not_true_eq_false, not_false_eq_true, and_self, or_self, iff_self]; done) | (simp [h312, h317]; done) | simp_all), by kernel_rfl, hp192⟩
          · refine OPS.batch 0 {} [] [1, 2, 7, 9, 94] [.int .i64 (clients.tmod 1000000), .string behind, .string ((((((((⟨#[99, 111, 110, 102, 105, 103, 32]⟩ : ByteArray) ++ (itoaT (c.N.tmod 1000000))) ++ (⟨#[32]⟩ : ByteArray)) ++ (itoaT (c.K.tmod 1000000))) ++ (⟨#[32]⟩ : ByteArray)) ++ (itoaT (c.Delta.tmod 1000000))) ++ (⟨#[32]⟩ : ByteArray)) ++ (itoaT (clients.tmod 1000000))), .int .i64 nc50, .bool (!((decide (cc49.N = (c.N.tmod 1000000))) && ((decide (cc49.K = (c.K.tmod 1000000))) && ((decide (cc49.Delta = (c.Delta.tmod 1000000))) && true))))] .nil (by kernel_rfl) (fun b318 => ?_)
            refine OPS.re [.int .i64 (clients.tmod 1000000), .string behind, .string ((((((((⟨#[99, 111, 110, 102, 105, 103, 32]⟩ : ByteArray) ++ (itoaT (c.N.tmod 1000000))) ++ (⟨#[32]⟩ : ByteArray)) ++ (itoaT (c.K.tmod 1000000))) ++ (⟨#[32]⟩ : ByteArray)) ++ (itoaT (c.Delta.tmod 1000000))) ++ (⟨#[32]⟩ : ByteArray)) ++ (itoaT (clients.tmod 1000000))), .int .i64 nc50, .bool true] (by rw [show (!((decide (cc49.N = (c.N.tmod 1000000))) && ((decide (cc49.K = (c.K.tmod 1000000))) && ((decide (cc49.Delta = (c.Delta.tmod 1000000))) && true)))) = true from (Bp.not (Bp.band Bp.dec (Bp.band Bp.dec (Bp.band1 Bp.dec)))).tt h317]) ?_
            refine OPS.batch 5 { wraps := [98] } [] [2, 7, 86] [.string behind, .string ((((((((⟨#[99, 111, 110, 102, 105, 103, 32]⟩ : ByteArray) ++ (itoaT (c.N.tmod 1000000))) ++ (⟨#[32]⟩ : ByteArray)) ++ (itoaT (c.K.tmod 1000000))) ++ (⟨#[32]⟩ : ByteArray)) ++ (itoaT (c.Delta.tmod 1000000))) ++ (⟨#[32]⟩ : ByteArray)) ++ (itoaT (clients.tmod 1000000))), .bool true] .nil (by kernel_rfl) (fun b319 => ?_)
            refine OPS.nil ?_
            refine thn_n ?_
            exact ⟨true, trivial, Bp.of Bp.t (by first | (simp only [h312, h317, iff_false, false_iff, iff_true, true_iff, Classical.not_not, and_true, true_and, and_false, false_and, or_true, true_or, or_false, false_or, not_true_eq_false, not_false_eq_true, and_self, or_self, iff_self]; done) | (simp [h312, h317]; done) | simp_all), by kernel_rfl, hp192⟩
        · refine OPS.batch 0 {} [] [1, 2, 3, 7, 8, 9, 89] [.int .i64 (clients.tmod 1000000), .string behind, .pointer (some ⟨g3, 0, none⟩), .string ((((((((⟨#[99, 111, 110, 102, 105, 103, 32]⟩ : ByteArray) ++ (itoaT (c.N.tmod 1000000))) ++ (⟨#[32]⟩ : ByteArray)) ++ (itoaT (c.K.tmod 1000000))) ++ (⟨#[32]⟩ : ByteArray)) ++ (itoaT (c.Delta.tmod 1000000))) ++ (⟨#[32]⟩ : ByteArray)) ++ (itoaT (clients.tmod 1000000))), .pointer (some ⟨g56, 0, none⟩), .int .i64 nc50, .bool (decide (¬ (ec51 = 0)))] .nil (by kernel_rfl) (fun b313 => ?_)
          refine OPS.re [.int .i64 (clients.tmod 1000000), .string behind, .pointer (some ⟨g3, 0, none⟩), .string ((((((((⟨#[99, 111, 110, 102, 105, 103, 32]⟩ : ByteArray) ++ (itoaT (c.N.tmod 1000000))) ++ (⟨#[32]⟩ : ByteArray)) ++ (itoaT (c.K.tmod 1000000))) ++ (⟨#[32]⟩ : ByteArray)) ++ (itoaT (c.Delta.tmod 1000000))) ++ (⟨#[32]⟩ : ByteArray)) ++ (itoaT (clients.tmod 1000000))), .pointer (some ⟨g56, 0, none⟩), .int .i64 nc50, .bool true] (by rw [show (decide (¬ (ec51 = 0))) = true from Bp.dec.tt h312]) ?_
          refine OPS.batch 10 { wraps := [93, 98] } [] [2, 7, 86] [.string behind, .string ((((((((⟨#[99, 111, 110, 102, 105, 103, 32]⟩ : ByteArray) ++ (itoaT (c.N.tmod 1000000))) ++ (⟨#[32]⟩ : ByteArray)) ++ (itoaT (c.K.tmod 1000000))) ++ (⟨#[32]⟩ : ByteArray)) ++ (itoaT (c.Delta.tmod 1000000))) ++ (⟨#[32]⟩ : ByteArray)) ++ (itoaT (clients.tmod 1000000))), .bool true] .nil (by kernel_rfl) (fun b314 => ?_)
          refine OPS.nil ?_
          refine thn_n ?_
          exact ⟨true, trivial, Bp.of Bp.t (by first | (simp only [h312, iff_false, false_iff, iff_true, true_iff, Classical.not_not, and_true, true_and, and_false, false_and, or_true, true_or, or_false, false_or, not_true_eq_false, not_false_eq_true, and_self, or_self, iff_self]; done) | (simp [h312]; done) | simp_all), by kernel_rfl, hp192⟩
      rintro e324 w325 ⟨x322, hd327, hb323, hE328, hp326⟩
      obtain ⟨b329, rfl⟩ := toMk hE328
      clear hE328
      clear hd327
      refine WP.test (p := ((¬ (ec51 = 0))) ∨ ((ec51 = 0) ∧ (¬ ((cc49.N = (c.N.tmod 1000000)) ∧ ((cc49.K = (c.K.tmod 1000000)) ∧ (cc49.Delta = (c.Delta.tmod 1000000)))))) ∨ ((ec51 = 0) ∧ ((cc49.N = (c.N.tmod 1000000)) ∧ ((cc49.K = (c.K.tmod 1000000)) ∧ (cc49.Delta = (c.Delta.tmod 1000000)))) ∧ (¬ (nc50 = (clients.tmod 1000000))))) rfl hb323 (fun h330 => ?_) (fun h330 => ?_)
      · refine WP.seq ?_
        refine WP.pure {} [] [6] [.bool false] .nil (by kernel_rfl) (fun b331 => ?_)
        refine thn_n ?_
        refine WP.ret ?_
        refine blk_r ?_
        refine thn_r ?_
        refine bodyQ.of _ rfl [.bool false] ⟨rfl, trivial⟩ ?_
        exfalso
        rw [line_conf] at hc52
        obtain ⟨f1, f2, f3⟩ := ConfR.of (a := (c.N.tmod 1000000)) (b := (c.K.tmod 1000000)) (g := (c.Delta.tmod 1000000)) (d := (clients.tmod 1000000)) ⟨by omega, by omega⟩ ⟨by omega, by omega⟩ ⟨by omega, by omega⟩ ⟨by omega, by omega⟩ hc52
        have hok : okCfg ⟨(c.N.tmod 1000000), (c.K.tmod 1000000), (c.Delta.tmod 1000000)⟩ := Classical.byContradiction fun q => absurd ((qChk_no q).symm.trans h67) (by decide)
        obtain ⟨q1, q2, q3⟩ := f3 hok (by omega)
        simp [q1, q2, q3] at h330
      · refine WP.skip ?_
        refine blk_n ?_
        refine thn_n ?_
        refine WP.seq ?_
        refine WP.region _ rfl (by kernel_rfl) ?_
        refine OPS.cons (opStep.call (some 100) [.string ⟨#[99, 111, 110, 102, 105, 103, 32, 51, 32, 49, 32, 48, 32, 50]⟩] (by kernel_rfl) (sc_Config (⟨#[99, 111, 110, 102, 105, 103, 32, 51, 32, 49, 32, 48, 32, 50]⟩ : ByteArray) (by first | omega | (simp only [ByteArray.size_append, sz32, szcf, szc2]; omega)) _ (hl.fram hp326.fr)) ?_)
        rintro _ w334 ⟨cc337, nc338, ec339, rfl, hc340, hf335⟩
        refine ⟨_, rfl, ?_⟩
        have hp336 := hp326.step hf335
        refine OPS.batch 4 {} [] [2, 7, 101, 102, 103] [.string behind, .string ((((((((⟨#[99, 111, 110, 102, 105, 103, 32]⟩ : ByteArray) ++ (itoaT (c.N.tmod 1000000))) ++ (⟨#[32]⟩ : ByteArray)) ++ (itoaT (c.K.tmod 1000000))) ++ (⟨#[32]⟩ : ByteArray)) ++ (itoaT (c.Delta.tmod 1000000))) ++ (⟨#[32]⟩ : ByteArray)) ++ (itoaT (clients.tmod 1000000))), GConfig.val cc337, .int .i64 nc338, .int .i64 ec339] .nil (by kernel_rfl) (fun b341 => ?_)
        refine OPS.cons (opStep.alloc hp336 [.int .i64 0, .int .i64 0, .int .i64 0] (by kernel_rfl) (fun g344 w342 hp343 => ?_))
        refine OPS.cons (opStep.store0 hp343 rfl [.int .i64 cc337.N, .int .i64 cc337.K, .int .i64 cc337.Delta] [.int .i64 cc337.N, .int .i64 cc337.K, .int .i64 cc337.Delta] (by kernel_rfl) (fun w345 hp346 => ?_))
        refine OPS.batch 2 {} [] [2, 7, 11, 12, 13] [.string behind, .string ((((((((⟨#[99, 111, 110, 102, 105, 103, 32]⟩ : ByteArray) ++ (itoaT (c.N.tmod 1000000))) ++ (⟨#[32]⟩ : ByteArray)) ++ (itoaT (c.K.tmod 1000000))) ++ (⟨#[32]⟩ : ByteArray)) ++ (itoaT (c.Delta.tmod 1000000))) ++ (⟨#[32]⟩ : ByteArray)) ++ (itoaT (clients.tmod 1000000))), .pointer (some ⟨g344, 0, none⟩), .int .i64 nc338, .int .i64 ec339] .nil (by kernel_rfl) (fun b347 => ?_)
        refine OPS.nil ?_
        refine thn_n ?_
        refine WP.seq ?_
        refine WP.cut (fun e362 w363 => ∃ (x360 : Bool), (True) ∧ Bp x360 (((¬ (ec339 = 0))) ∨ ((ec339 = 0) ∧ (¬ ((cc337.N = 3) ∧ ((cc337.K = 1) ∧ (cc337.Delta = 0))))) ∨ ((ec339 = 0) ∧ ((cc337.N = 3) ∧ ((cc337.K = 1) ∧ (cc337.Delta = 0))) ∧ (¬ (nc338 = 2)))) ∧ List.map e362 [2, 7, 114] = [.string behind, .string ((((((((⟨#[99, 111, 110, 102, 105, 103, 32]⟩ : ByteArray) ++ (itoaT (c.N.tmod 1000000))) ++ (⟨#[32]⟩ : ByteArray)) ++ (itoaT (c.K.tmod 1000000))) ++ (⟨#[32]⟩ : ByteArray)) ++ (itoaT (c.Delta.tmod 1000000))) ++ (⟨#[32]⟩ : ByteArray)) ++ (itoaT (clients.tmod 1000000))), .bool x360] ∧ Hp w Non [Res.row g344 [.int .i64 cc337.N, .int .i64 cc337.K, .int .i64 cc337.Delta] 40, Res.row g56 [.int .i64 cc49.N, .int .i64 cc49.K, .int .i64 cc49.Delta] 40, Res.row g3 [.int .i64 (c.N.tmod 1000000), .int .i64 (c.K.tmod 1000000), .int .i64 (c.Delta.tmod 1000000)] 40] w363) ?_ ?_
        · refine WP.region _ rfl (by kernel_rfl) ?_
          refine OPS.batch 3 {} [] [2, 7, 11, 12, 106] [.string behind, .string ((((((((⟨#[99, 111, 110, 102, 105, 103, 32]⟩ : ByteArray) ++ (itoaT (c.N.tmod 1000000))) ++ (⟨#[32]⟩ : ByteArray)) ++ (itoaT (c.K.tmod 1000000))) ++ (⟨#[32]⟩ : ByteArray)) ++ (itoaT (c.Delta.tmod 1000000))) ++ (⟨#[32]⟩ : ByteArray)) ++ (itoaT (clients.tmod 1000000))), .pointer (some ⟨g344, 0, none⟩), .int .i64 nc338, .bool (decide (¬ (ec339 = 0)))] .nil (by kernel_rfl) (fun b349 => ?_)
          by_cases h350 : ec339 = 0
          · refine OPS.batch 0 {} [] [2, 7, 11, 12, 106] [.string behind, .string ((((((((⟨#[99, 111, 110, 102, 105, 103, 32]⟩ : ByteArray) ++ (itoaT (c.N.tmod 1000000))) ++ (⟨#[32]⟩ : ByteArray)) ++ (itoaT (c.K.tmod 1000000))) ++ (⟨#[32]⟩ : ByteArray)) ++ (itoaT (c.Delta.tmod 1000000))) ++ (⟨#[32]⟩ : ByteArray)) ++ (itoaT (clients.tmod 1000000))), .pointer (some ⟨g344, 0, none⟩), .int .i64 nc338, .bool (decide (¬ (ec339 = 0)))] .nil (by kernel_rfl) (fun b353 => ?_)
            refine OPS.re [.string behind, .string ((((((((⟨#[99, 111, 110, 102, 105, 103, 32]⟩ : ByteArray) ++ (itoaT (c.N.tmod 1000000))) ++ (⟨#[32]⟩ : ByteArray)) ++ (itoaT (c.K.tmod 1000000))) ++ (⟨#[32]⟩ : ByteArray)) ++ (itoaT (c.Delta.tmod 1000000))) ++ (⟨#[32]⟩ : ByteArray)) ++ (itoaT (clients.tmod 1000000))), .pointer (some ⟨g344, 0, none⟩), .int .i64 nc338, .bool false] (by rw [show (decide (¬ (ec339 = 0))) = false from Bp.dec.ff (fun k => k h350)]) ?_
            refine OPS.batch 5 { wraps := [110] } [GConfig.val cc337] [2, 7, 12, 111] [.string behind, .string ((((((((⟨#[99, 111, 110, 102, 105, 103, 32]⟩ : ByteArray) ++ (itoaT (c.N.tmod 1000000))) ++ (⟨#[32]⟩ : ByteArray)) ++ (itoaT (c.K.tmod 1000000))) ++ (⟨#[32]⟩ : ByteArray)) ++ (itoaT (c.Delta.tmod 1000000))) ++ (⟨#[32]⟩ : ByteArray)) ++ (itoaT (clients.tmod 1000000))), .int .i64 nc338, .bool (!((decide (cc337.N = 3)) && ((decide (cc337.K = 1)) && ((decide (cc337.Delta = 0)) && true))))] (.cons (show Ld Tryd.prog w345 40 ⟨g344, 0, none⟩ (GConfig.val cc337) from Ld.rowN (cs := [.int .i64 cc337.N, .int .i64 cc337.K, .int .i64 cc337.Delta]) hp346.get0 (by kernel_rfl)) .nil) (by kernel_rfl) (fun b354 => ?_)
            by_cases h355 : (cc337.N = 3) ∧ ((cc337.K = 1) ∧ (cc337.Delta = 0))
            · refine OPS.batch 0 {} [] [2, 7, 12, 111] [.string behind, .string ((((((((⟨#[99, 111, 110, 102, 105, 103, 32]⟩ : ByteArray) ++ (itoaT (c.N.tmod 1000000))) ++ (⟨#[32]⟩ : ByteArray)) ++ (itoaT (c.K.tmod 1000000))) ++ (⟨#[32]⟩ : ByteArray)) ++ (itoaT (c.Delta.tmod 1000000))) ++ (⟨#[32]⟩ : ByteArray)) ++ (itoaT (clients.tmod 1000000))), .int .i64 nc338, .bool (!((decide (cc337.N = 3)) && ((decide (cc337.K = 1)) && ((decide (cc337.Delta = 0)) && true))))] .nil (by kernel_rfl) (fun b358 => ?_)
              refine OPS.re [.string behind, .string ((((((((⟨#[99, 111, 110, 102, 105, 103, 32]⟩ : ByteArray) ++ (itoaT (c.N.tmod 1000000))) ++ (⟨#[32]⟩ : ByteArray)) ++ (itoaT (c.K.tmod 1000000))) ++ (⟨#[32]⟩ : ByteArray)) ++ (itoaT (c.Delta.tmod 1000000))) ++ (⟨#[32]⟩ : ByteArray)) ++ (itoaT (clients.tmod 1000000))), .int .i64 nc338, .bool false] (by rw [show (!((decide (cc337.N = 3)) && ((decide (cc337.K = 1)) && ((decide (cc337.Delta = 0)) && true)))) = false from (Bp.not (Bp.band Bp.dec (Bp.band Bp.dec (Bp.band1 Bp.dec)))).ff (fun k => k h355)]) ?_
              refine OPS.batch 3 { wraps := [114] } [] [2, 7, 114] [.string behind, .string ((((((((⟨#[99, 111, 110, 102, 105, 103, 32]⟩ : ByteArray) ++ (itoaT (c.N.tmod 1000000))) ++ (⟨#[32]⟩ : ByteArray)) ++ (itoaT (c.K.tmod 1000000))) ++ (⟨#[32]⟩ : ByteArray)) ++ (itoaT (c.Delta.tmod 1000000))) ++ (⟨#[32]⟩ : ByteArray)) ++ (itoaT (clients.tmod 1000000))), .bool (decide (¬ (nc338 = 2)))] .nil (by kernel_rfl) (fun b359 => ?_)
              refine OPS.nil ?_
              refine thn_n ?_
              exact ⟨decide (¬ (nc338 = 2)), trivial, Bp.of Bp.dec (by first | (simp only [h350, h355, iff_false, false_iff, iff_true, true_iff, Classical.not_not, and_true, true_and, and_false, false_and, or_true, true_or, or_false, false_or, not_true_eq_false, not_false_eq_true, and_self, or_self, iff_self]; done) | (simp [h350, h355]; done) | simp_all), by kernel_rfl, hp346⟩
            · refine OPS.batch 0 {} [] [2, 7, 12, 111] [.string behind, .string ((((((((⟨#[99, 111, 110, 102, 105, 103, 32]⟩ : ByteArray) ++ (itoaT (c.N.tmod 1000000))) ++ (⟨#[32]⟩ : ByteArray)) ++ (itoaT (c.K.tmod 1000000))) ++ (⟨#[32]⟩ : ByteArray)) ++ (itoaT (c.Delta.tmod 1000000))) ++ (⟨#[32]⟩ : ByteArray)) ++ (itoaT (clients.tmod 1000000))), .int .i64 nc338, .bool (!((decide (cc337.N = 3)) && ((decide (cc337.K = 1)) && ((decide (cc337.Delta = 0)) && true))))] .nil (by kernel_rfl) (fun b356 => ?_)
              refine OPS.re [.string behind, .string ((((((((⟨#[99, 111, 110, 102, 105, 103, 32]⟩ : ByteArray) ++ (itoaT (c.N.tmod 1000000))) ++ (⟨#[32]⟩ : ByteArray)) ++ (itoaT (c.K.tmod 1000000))) ++ (⟨#[32]⟩ : ByteArray)) ++ (itoaT (c.Delta.tmod 1000000))) ++ (⟨#[32]⟩ : ByteArray)) ++ (itoaT (clients.tmod 1000000))), .int .i64 nc338, .bool true] (by rw [show (!((decide (cc337.N = 3)) && ((decide (cc337.K = 1)) && ((decide (cc337.Delta = 0)) && true)))) = true from (Bp.not (Bp.band Bp.dec (Bp.band Bp.dec (Bp.band1 Bp.dec)))).tt h355]) ?_
              refine OPS.batch 3 { wraps := [114] } [] [2, 7, 114] [.string behind, .string ((((((((⟨#[99, 111, 110, 102, 105, 103, 32]⟩ : ByteArray) ++ (itoaT (c.N.tmod 1000000))) ++ (⟨#[32]⟩ : ByteArray)) ++ (itoaT (c.K.tmod 1000000))) ++ (⟨#[32]⟩ : ByteArray)) ++ (itoaT (c.Delta.tmod 1000000))) ++ (⟨#[32]⟩ : ByteArray)) ++ (itoaT (clients.tmod 1000000))), .bool true] .nil (by kernel_rfl) (fun b357 => ?_)
              refine OPS.nil ?_
              refine thn_n ?_
              exact ⟨true, trivial, Bp.of Bp.t (by first | (simp only [h350, h355, iff_false, false_iff, iff_true, true_iff, Classical.not_not, and_true, true_and, and_false, false_and, or_true, true_or, or_false, false_or, not_true_eq_false, not_false_eq_true, and_self, or_self, iff_self]; done) | (simp [h350, h355]; done) | simp_all), by kernel_rfl, hp346⟩
          · refine OPS.batch 0 {} [] [2, 7, 11, 12, 106] [.string behind, .string ((((((((⟨#[99, 111, 110, 102, 105, 103, 32]⟩ : ByteArray) ++ (itoaT (c.N.tmod 1000000))) ++ (⟨#[32]⟩ : ByteArray)) ++ (itoaT (c.K.tmod 1000000))) ++ (⟨#[32]⟩ : ByteArray)) ++ (itoaT (c.Delta.tmod 1000000))) ++ (⟨#[32]⟩ : ByteArray)) ++ (itoaT (clients.tmod 1000000))), .pointer (some ⟨g344, 0, none⟩), .int .i64 nc338, .bool (decide (¬ (ec339 = 0)))] .nil (by kernel_rfl) (fun b351 => ?_)
            refine OPS.re [.string behind, .string ((((((((⟨#[99, 111, 110, 102, 105, 103, 32]⟩ : ByteArray) ++ (itoaT (c.N.tmod 1000000))) ++ (⟨#[32]⟩ : ByteArray)) ++ (itoaT (c.K.tmod 1000000))) ++ (⟨#[32]⟩ : ByteArray)) ++ (itoaT (c.Delta.tmod 1000000))) ++ (⟨#[32]⟩ : ByteArray)) ++ (itoaT (clients.tmod 1000000))), .pointer (some ⟨g344, 0, none⟩), .int .i64 nc338, .bool true] (by rw [show (decide (¬ (ec339 = 0))) = true from Bp.dec.tt h350]) ?_
            refine OPS.batch 8 { wraps := [110, 114] } [] [2, 7, 114] [.string behind, .string ((((((((⟨#[99, 111, 110, 102, 105, 103, 32]⟩ : ByteArray) ++ (itoaT (c.N.tmod 1000000))) ++ (⟨#[32]⟩ : ByteArray)) ++ (itoaT (c.K.tmod 1000000))) ++ (⟨#[32]⟩ : ByteArray)) ++ (itoaT (c.Delta.tmod 1000000))) ++ (⟨#[32]⟩ : ByteArray)) ++ (itoaT (clients.tmod 1000000))), .bool true] .nil (by kernel_rfl) (fun b352 => ?_)
            refine OPS.nil ?_
            refine thn_n ?_
            exact ⟨true, trivial, Bp.of Bp.t (by first | (simp only [h350, iff_false, false_iff, iff_true, true_iff, Classical.not_not, and_true, true_and, and_false, false_and, or_true, true_or, or_false, false_or, not_true_eq_false, not_false_eq_true, and_self, or_self, iff_self]; done) | (simp [h350]; done) | simp_all), by kernel_rfl, hp346⟩
        rintro e362 w363 ⟨x360, hd365, hb361, hE366, hp364⟩
        obtain ⟨b367, rfl⟩ := toMk hE366
        clear hE366
        clear hd365
        refine WP.test (p := ((¬ (ec339 = 0))) ∨ ((ec339 = 0) ∧ (¬ ((cc337.N = 3) ∧ ((cc337.K = 1) ∧ (cc337.Delta = 0))))) ∨ ((ec339 = 0) ∧ ((cc337.N = 3) ∧ ((cc337.K = 1) ∧ (cc337.Delta = 0))) ∧ (¬ (nc338 = 2)))) rfl hb361 (fun h368 => ?_) (fun h368 => ?_)
        · refine WP.seq ?_
          refine WP.pure {} [] [6] [.bool false] .nil (by kernel_rfl) (fun b369 => ?_)
          refine thn_n ?_
          refine WP.ret ?_
          refine thn_r ?_
          refine bodyQ.of _ rfl [.bool false] ⟨rfl, trivial⟩ ?_
          exfalso
          have hcc := hc340
          rw [← conf_3102] at hcc
          obtain ⟨_, _, f3⟩ := ConfR.of (a := 3) (b := 1) (g := 0) (d := 2) ⟨by omega, by omega⟩ ⟨by omega, by omega⟩ ⟨by omega, by omega⟩ ⟨by omega, by omega⟩ hcc
          obtain ⟨q1, q2, q3⟩ := f3 (by decide) (by omega)
          simp [q1, q2, q3] at h368
        · refine WP.skip ?_
          refine thn_n ?_
          refine WP.seq ?_
          refine WP.seq ?_
          refine WP.pure {} [] [2, 7, 14] [.string behind, .string ((((((((⟨#[99, 111, 110, 102, 105, 103, 32]⟩ : ByteArray) ++ (itoaT (c.N.tmod 1000000))) ++ (⟨#[32]⟩ : ByteArray)) ++ (itoaT (c.K.tmod 1000000))) ++ (⟨#[32]⟩ : ByteArray)) ++ (itoaT (c.Delta.tmod 1000000))) ++ (⟨#[32]⟩ : ByteArray)) ++ (itoaT (clients.tmod 1000000))), .int .i64 0] .nil (by kernel_rfl) (fun b370 => ?_)
          refine thn_n ?_
          refine WP.block ?_
          refine WP.loop (fun mz_ e371 w372 => ∃ (k : Nat), mz_ = behind.size - k ∧ (k ≤ behind.size ∧ ∀ i : Nat, i < k → ¬ (48 ≤ byteAt behind i ∧ byteAt behind i ≤ 57)) ∧ List.map e371 [2, 7, 14] = [.string behind, .string ((((((((⟨#[99, 111, 110, 102, 105, 103, 32]⟩ : ByteArray) ++ (itoaT (c.N.tmod 1000000))) ++ (⟨#[32]⟩ : ByteArray)) ++ (itoaT (c.K.tmod 1000000))) ++ (⟨#[32]⟩ : ByteArray)) ++ (itoaT (c.Delta.tmod 1000000))) ++ (⟨#[32]⟩ : ByteArray)) ++ (itoaT (clients.tmod 1000000))), .int .i64 (k : Int)] ∧ Hp w Non [Res.row g344 [.int .i64 cc337.N, .int .i64 cc337.K, .int .i64 cc337.Delta] 40, Res.row g56 [.int .i64 cc49.N, .int .i64 cc49.K, .int .i64 cc49.Delta] 40, Res.row g3 [.int .i64 (c.N.tmod 1000000), .int .i64 (c.K.tmod 1000000), .int .i64 (c.Delta.tmod 1000000)] 40] w372) (behind.size - (0)) ⟨0, rfl, ⟨by omega, fun i hi => by omega⟩, by kernel_rfl, hp364⟩ ?_
          rintro _ e371 w372 ⟨k, rfl, hI374, hE375, hp373⟩
          obtain ⟨b376, rfl⟩ := toMk hE375
          clear hE375
          obtain ⟨pa, pd⟩ := hI374
          refine WP.seq ?_
          refine WP.seq ?_
          refine WP.pure {} [] [2, 7, 14, 118] [.string behind, .string ((((((((⟨#[99, 111, 110, 102, 105, 103, 32]⟩ : ByteArray) ++ (itoaT (c.N.tmod 1000000))) ++ (⟨#[32]⟩ : ByteArray)) ++ (itoaT (c.K.tmod 1000000))) ++ (⟨#[32]⟩ : ByteArray)) ++ (itoaT (c.Delta.tmod 1000000))) ++ (⟨#[32]⟩ : ByteArray)) ++ (itoaT (clients.tmod 1000000))), .int .i64 (k : Int), .bool (decide ((k : Int) < (behind.size : Int)))] .nil (by kernel_rfl) (fun b377 => ?_)
          refine thn_n ?_
          refine WP.test (p := (k : Int) < (behind.size : Int)) rfl Bp.dec (fun h378 => ?_) (fun h378 => ?_)
          · refine WP.skip ?_
            refine thn_n ?_
            refine WP.seq ?_
            refine WP.block ?_
            refine WP.cut (fun e388 w389 => ∃ (x386 : Bool), (True) ∧ Bp x386 ((48 ≤ (byteAt behind ((k : Int)))) ∧ ((byteAt behind ((k : Int))) ≤ 57)) ∧ List.map e388 [2, 7, 14, 130] = [.string behind, .string ((((((((⟨#[99, 111, 110, 102, 105, 103, 32]⟩ : ByteArray) ++ (itoaT (c.N.tmod 1000000))) ++ (⟨#[32]⟩ : ByteArray)) ++ (itoaT (c.K.tmod 1000000))) ++ (⟨#[32]⟩ : ByteArray)) ++ (itoaT (c.Delta.tmod 1000000))) ++ (⟨#[32]⟩ : ByteArray)) ++ (itoaT (clients.tmod 1000000))), .int .i64 (k : Int), .bool x386] ∧ Hp w Non [Res.row g344 [.int .i64 cc337.N, .int .i64 cc337.K, .int .i64 cc337.Delta] 40, Res.row g56 [.int .i64 cc49.N, .int .i64 cc49.K, .int .i64 cc49.Delta] 40, Res.row g3 [.int .i64 (c.N.tmod 1000000), .int .i64 (c.K.tmod 1000000), .int .i64 (c.Delta.tmod 1000000)] 40] w389) ?_ ?_
            · refine WP.region _ rfl (by kernel_rfl) ?_
              refine OPS.batch 5 {} [] [2, 7, 14, 125] [.string behind, .string ((((((((⟨#[99, 111, 110, 102, 105, 103, 32]⟩ : ByteArray) ++ (itoaT (c.N.tmod 1000000))) ++ (⟨#[32]⟩ : ByteArray)) ++ (itoaT (c.K.tmod 1000000))) ++ (⟨#[32]⟩ : ByteArray)) ++ (itoaT (c.Delta.tmod 1000000))) ++ (⟨#[32]⟩ : ByteArray)) ++ (itoaT (clients.tmod 1000000))), .int .i64 (k : Int), .bool (decide (48 ≤ (byteAt behind ((k : Int)))))] (.cons (show InB ((k : Int)) behind.size from ⟨by first | omega | (simp only [ByteArray.size_append, sz32, szcf, szc2]; omega), by first | omega | (simp only [ByteArray.size_append, sz32, szcf, szc2]; omega)⟩) .nil) (by kernel_rfl) (fun b380 => ?_)
              by_cases h381 : 48 ≤ (byteAt behind ((k : Int)))
              · refine OPS.batch 0 {} [] [2, 7, 14, 125] [.string behind, .string ((((((((⟨#[99, 111, 110, 102, 105, 103, 32]⟩ : ByteArray) ++ (itoaT (c.N.tmod 1000000))) ++ (⟨#[32]⟩ : ByteArray)) ++ (itoaT (c.K.tmod 1000000))) ++ (⟨#[32]⟩ : ByteArray)) ++ (itoaT (c.Delta.tmod 1000000))) ++ (⟨#[32]⟩ : ByteArray)) ++ (itoaT (clients.tmod 1000000))), .int .i64 (k : Int), .bool (decide (48 ≤ (byteAt behind ((k : Int)))))] .nil (by kernel_rfl) (fun b382 => ?_)
                refine OPS.re [.string behind, .string ((((((((⟨#[99, 111, 110, 102, 105, 103, 32]⟩ : ByteArray) ++ (itoaT (c.N.tmod 1000000))) ++ (⟨#[32]⟩ : ByteArray)) ++ (itoaT (c.K.tmod 1000000))) ++ (⟨#[32]⟩ : ByteArray)) ++ (itoaT (c.Delta.tmod 1000000))) ++ (⟨#[32]⟩ : ByteArray)) ++ (itoaT (clients.tmod 1000000))), .int .i64 (k : Int), .bool true] (by rw [show (decide (48 ≤ (byteAt behind ((k : Int))))) = true from Bp.dec.tt h381]) ?_
                refine OPS.batch 5 { wraps := [130] } [] [2, 7, 14, 130] [.string behind, .string ((((((((⟨#[99, 111, 110, 102, 105, 103, 32]⟩ : ByteArray) ++ (itoaT (c.N.tmod 1000000))) ++ (⟨#[32]⟩ : ByteArray)) ++ (itoaT (c.K.tmod 1000000))) ++ (⟨#[32]⟩ : ByteArray)) ++ (itoaT (c.Delta.tmod 1000000))) ++ (⟨#[32]⟩ : ByteArray)) ++ (itoaT (clients.tmod 1000000))), .int .i64 (k : Int), .bool (decide ((byteAt behind ((k : Int))) ≤ 57))] (.cons (show InB ((k : Int)) behind.size from ⟨by first | omega | (simp only [ByteArray.size_append, sz32, szcf, szc2]; omega), by first | omega | (simp only [ByteArray.size_append, sz32, szcf, szc2]; omega)⟩) .nil) (by kernel_rfl) (fun b383 => ?_)
                refine OPS.nil ?_
                refine thn_n ?_
                exact ⟨decide ((byteAt behind ((k : Int))) ≤ 57), trivial, Bp.of Bp.dec (by first | (simp only [h381, iff_false, false_iff, iff_true, true_iff, Classical.not_not, and_true, true_and, and_false, false_and, or_true, true_or, or_false, false_or, not_true_eq_false, not_false_eq_true, and_self, or_self, iff_self]; done) | (simp [h381]; done) | simp_all), by kernel_rfl, hp373⟩
              · refine OPS.batch 0 {} [] [2, 7, 14, 125] [.string behind, .string ((((((((⟨#[99, 111, 110, 102, 105, 103, 32]⟩ : ByteArray) ++ (itoaT (c.N.tmod 1000000))) ++ (⟨#[32]⟩ : ByteArray)) ++ (itoaT (c.K.tmod 1000000))) ++ (⟨#[32]⟩ : ByteArray)) ++ (itoaT (c.Delta.tmod 1000000))) ++ (⟨#[32]⟩ : ByteArray)) ++ (itoaT (clients.tmod 1000000))), .int .i64 (k : Int), .bool (decide (48 ≤ (byteAt behind ((k : Int)))))] .nil (by kernel_rfl) (fun b384 => ?_)
                refine OPS.re [.string behind, .string ((((((((⟨#[99, 111, 110, 102, 105, 103, 32]⟩ : ByteArray) ++ (itoaT (c.N.tmod 1000000))) ++ (⟨#[32]⟩ : ByteArray)) ++ (itoaT (c.K.tmod 1000000))) ++ (⟨#[32]⟩ : ByteArray)) ++ (itoaT (c.Delta.tmod 1000000))) ++ (⟨#[32]⟩ : ByteArray)) ++ (itoaT (clients.tmod 1000000))), .int .i64 (k : Int), .bool false] (by rw [show (decide (48 ≤ (byteAt behind ((k : Int))))) = false from Bp.dec.ff h381]) ?_
                refine OPS.batch 5 { wraps := [130] } [] [2, 7, 14, 130] [.string behind, .string ((((((((⟨#[99, 111, 110, 102, 105, 103, 32]⟩ : ByteArray) ++ (itoaT (c.N.tmod 1000000))) ++ (⟨#[32]⟩ : ByteArray)) ++ (itoaT (c.K.tmod 1000000))) ++ (⟨#[32]⟩ : ByteArray)) ++ (itoaT (c.Delta.tmod 1000000))) ++ (⟨#[32]⟩ : ByteArray)) ++ (itoaT (clients.tmod 1000000))), .int .i64 (k : Int), .bool false] .nil (by kernel_rfl) (fun b385 => ?_)
                refine OPS.nil ?_
                refine thn_n ?_
                exact ⟨false, trivial, Bp.of Bp.f (by first | (simp only [h381, iff_false, false_iff, iff_true, true_iff, Classical.not_not, and_true, true_and, and_false, false_and, or_true, true_or, or_false, false_or, not_true_eq_false, not_false_eq_true, and_self, or_self, iff_self]; done) | (simp [h381]; done) | simp_all), by kernel_rfl, hp373⟩
            rintro e388 w389 ⟨x386, hd391, hb387, hE392, hp390⟩
            obtain ⟨b393, rfl⟩ := toMk hE392
            clear hE392
            clear hd391
            refine WP.test (p := (48 ≤ (byteAt behind ((k : Int)))) ∧ ((byteAt behind ((k : Int))) ≤ 57)) rfl hb387 (fun h394 => ?_) (fun h394 => ?_)
            · refine WP.seq ?_
              refine WP.pure {} [] [6] [.bool true] .nil (by kernel_rfl) (fun b395 => ?_)
              refine thn_n ?_
              refine WP.ret ?_
              refine blk_r ?_
              refine thn_r ?_
              refine thn_r ?_
              refine blk_r ?_
              refine thn_r ?_
              refine bodyQ.of _ rfl [.bool true] ⟨rfl, trivial⟩ ?_
              exact ⟨rfl, hp390.fr⟩
            · refine WP.skip ?_
              refine blk_n ?_
              refine thn_n ?_
              refine WP.pure {} [] [2, 7, 14] [.string behind, .string ((((((((⟨#[99, 111, 110, 102, 105, 103, 32]⟩ : ByteArray) ++ (itoaT (c.N.tmod 1000000))) ++ (⟨#[32]⟩ : ByteArray)) ++ (itoaT (c.K.tmod 1000000))) ++ (⟨#[32]⟩ : ByteArray)) ++ (itoaT (c.Delta.tmod 1000000))) ++ (⟨#[32]⟩ : ByteArray)) ++ (itoaT (clients.tmod 1000000))), .int .i64 ((k : Int) + 1)] (.cons (show Rng .i64 ((k : Int) + 1) from Rng.i64 (by first | omega | (simp only [ByteArray.size_append, sz32, szcf, szc2]; omega))) .nil) (by kernel_rfl) (fun b396 => ?_)
              refine thn_n ?_
              exact ⟨behind.size - (k + 1), (by omega), k + 1, rfl, ⟨by omega, fun i hi => by by_cases e : i = k; subst e; omega; exact pd i (by omega)⟩, by kernel_rfl, hp390⟩
          · refine WP.exit ?_
            refine thn_x ?_
            refine thn_x ?_
            refine blk_hit ?_
            refine thn_n ?_
            refine WP.seq ?_
            refine WP.region _ rfl (by kernel_rfl) ?_
            refine OPS.batch 3 {} [] [2, 134] [.string behind, .string (((((((((⟨#[99, 111, 110, 102, 105, 103, 32]⟩ : ByteArray) ++ (itoaT (c.N.tmod 1000000))) ++ (⟨#[32]⟩ : ByteArray)) ++ (itoaT (c.K.tmod 1000000))) ++ (⟨#[32]⟩ : ByteArray)) ++ (itoaT (c.Delta.tmod 1000000))) ++ (⟨#[32]⟩ : ByteArray)) ++ (itoaT (clients.tmod 1000000))) ++ behind)] (.cons (show ((((((((⟨#[99, 111, 110, 102, 105, 103, 32]⟩ : ByteArray) ++ (itoaT (c.N.tmod 1000000))) ++ (⟨#[32]⟩ : ByteArray)) ++ (itoaT (c.K.tmod 1000000))) ++ (⟨#[32]⟩ : ByteArray)) ++ (itoaT (c.Delta.tmod 1000000))) ++ (⟨#[32]⟩ : ByteArray)) ++ (itoaT (clients.tmod 1000000))).size + behind.size ≤ 9223372036854775807 from by first | omega | (simp only [ByteArray.size_append, sz32, szcf, szc2]; omega)) .nil) (by kernel_rfl) (fun b397 => ?_)
            refine OPS.cons (opStep.call (some 135) [.string (((((((((⟨#[99, 111, 110, 102, 105, 103, 32]⟩ : ByteArray) ++ (itoaT (c.N.tmod 1000000))) ++ (⟨#[32]⟩ : ByteArray)) ++ (itoaT (c.K.tmod 1000000))) ++ (⟨#[32]⟩ : ByteArray)) ++ (itoaT (c.Delta.tmod 1000000))) ++ (⟨#[32]⟩ : ByteArray)) ++ (itoaT (clients.tmod 1000000))) ++ behind)] (by kernel_rfl) (sc_Config (((((((((⟨#[99, 111, 110, 102, 105, 103, 32]⟩ : ByteArray) ++ (itoaT (c.N.tmod 1000000))) ++ (⟨#[32]⟩ : ByteArray)) ++ (itoaT (c.K.tmod 1000000))) ++ (⟨#[32]⟩ : ByteArray)) ++ (itoaT (c.Delta.tmod 1000000))) ++ (⟨#[32]⟩ : ByteArray)) ++ (itoaT (clients.tmod 1000000))) ++ behind) (by first | omega | (simp only [ByteArray.size_append, sz32, szcf, szc2]; omega)) _ (hl.fram hp373.fr)) ?_)
            rintro _ w400 ⟨cc403, nc404, ec405, rfl, hc406, hf401⟩
            refine ⟨_, rfl, ?_⟩
            have hp402 := hp373.step hf401
            refine OPS.batch 5 {} [] [2, 13] [.string behind, .int .i64 ec405] .nil (by kernel_rfl) (fun b407 => ?_)
            refine OPS.nil ?_
            refine thn_n ?_
            refine WP.cut (fun e417 w418 => ∃ (x415 : Bool), (True) ∧ Bp x415 (((behind = ⟨#[]⟩)) ∨ ((¬ (behind = ⟨#[]⟩)) ∧ (ec405 = 82))) ∧ List.map e417 [6] = [.bool x415] ∧ Hp w Non [Res.row g344 [.int .i64 cc337.N, .int .i64 cc337.K, .int .i64 cc337.Delta] 40, Res.row g56 [.int .i64 cc49.N, .int .i64 cc49.K, .int .i64 cc49.Delta] 40, Res.row g3 [.int .i64 (c.N.tmod 1000000), .int .i64 (c.K.tmod 1000000), .int .i64 (c.Delta.tmod 1000000)] 40] w418) ?_ ?_
            · refine WP.region _ rfl (by kernel_rfl) ?_
              refine OPS.batch 3 {} [] [13, 141] [.int .i64 ec405, .bool (decide (behind = ⟨#[]⟩))] .nil (by kernel_rfl) (fun b409 => ?_)
              by_cases h410 : behind = ⟨#[]⟩
              · refine OPS.batch 0 {} [] [13, 141] [.int .i64 ec405, .bool (decide (behind = ⟨#[]⟩))] .nil (by kernel_rfl) (fun b411 => ?_)
                refine OPS.re [.int .i64 ec405, .bool true] (by rw [show (decide (behind = ⟨#[]⟩)) = true from Bp.dec.tt h410]) ?_
                refine OPS.batch 4 { wraps := [144] } [] [6] [.bool true] .nil (by kernel_rfl) (fun b412 => ?_)
                refine OPS.nil ?_
                refine thn_n ?_
                exact ⟨true, trivial, Bp.of Bp.t (by first | (simp only [h410, iff_false, false_iff, iff_true, true_iff, Classical.not_not, and_true, true_and, and_false, false_and, or_true, true_or, or_false, false_or, not_true_eq_false, not_false_eq_true, and_self, or_self, iff_self]; done) | (simp [h410]; done) | simp_all), by kernel_rfl, hp402⟩
              · refine OPS.batch 0 {} [] [13, 141] [.int .i64 ec405, .bool (decide (behind = ⟨#[]⟩))] .nil (by kernel_rfl) (fun b413 => ?_)
                refine OPS.re [.int .i64 ec405, .bool false] (by rw [show (decide (behind = ⟨#[]⟩)) = false from Bp.dec.ff h410]) ?_
                refine OPS.batch 4 { wraps := [144] } [] [6] [.bool (decide (ec405 = 82))] .nil (by kernel_rfl) (fun b414 => ?_)
                refine OPS.nil ?_
                refine thn_n ?_
                exact ⟨decide (ec405 = 82), trivial, Bp.of Bp.dec (by first | (simp only [h410, iff_false, false_iff, iff_true, true_iff, Classical.not_not, and_true, true_and, and_false, false_and, or_true, true_or, or_false, false_or, not_true_eq_false, not_false_eq_true, and_self, or_self, iff_self]; done) | (simp [h410]; done) | simp_all), by kernel_rfl, hp402⟩
            rintro e417 w418 ⟨x415, hd420, hb416, hE421, hp419⟩
            obtain ⟨b422, rfl⟩ := toMk hE421
            clear hE421
            clear hd420
            refine WP.ret ?_
            refine bodyQ.of _ rfl [.bool x415] ⟨rfl, trivial⟩ ?_
            exact ⟨congrArg (fun b => Ending.returned (.bool b)) (Bp.tt hb416 (by by_cases hb : behind = (⟨#[]⟩ : ByteArray); exact .inl hb; exact .inr ⟨hb, conf_zero hc406 (conf_behind hb (fun i hi => pd i (by omega)))⟩)), hp419.fr⟩

end Go.Proofs.YtpmcjhjlajmljaaDoorRRRR.K
