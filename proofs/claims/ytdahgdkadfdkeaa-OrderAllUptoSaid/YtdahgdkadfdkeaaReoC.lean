/- The walks of ReoC: what each function computes. -/
import Derived.Test.YtdahgdkadfdkeaaProg
import Derived.Test.YtdahgdkadfdkeaaCoreO
import Derived.Test.YtdahgdkadfdkeaaReoB
namespace Go.Proofs.Ytdahgdkadfdkeaa.K
open Go Go.Proofs Go.RowKit
set_option linter.unusedVariables false
set_option linter.unusedSimpArgs false
set_option maxRecDepth 20000
set_option maxHeartbeats 4000000

theorem r21_Check (l : List GCall) (a : Option Addr) (n c : Nat) (w : World) (hn : n = l.length) (hb : l.length ≤ 8796093022207) (hs : SlR w a n (l.flatMap GCall.cells)) (o : List Int) (ao : Option Addr) (no co : Nat) (hno : no = o.length) (hbo : o.length ≤ 9223372036854775807) (hso : SlR w ao no (List.flatMap (fun (y : Int) => [Go.Value.int .i64 y]) o)) (hv : ∀ y ∈ l, VB w y.Value) (hr : ByR w l) :
    Calls Try.prog 29 #[.slice a n c, .slice ao no co] w (fun r_ w' => r_ = .returned (.int .i64 (chkO w l o)) ∧ Fram Non w w') := by
  refine calls_of Try.func29 rfl 96 rfl (by simp) ?_
  have hp0 := Hp.init w
  have he0 : List.map (env0 [.slice a n c, .slice ao no co]) [0, 1] = [.slice a n c, .slice ao no co] := by kernel_rfl
  obtain ⟨b0, he0⟩ := toMk he0
  rw [he0]
  clear he0
  refine WP.seq ?_
  refine WP.pure {} [] [0, 1] [.slice a n c, .slice ao no co] .nil (by kernel_rfl) (fun b1 => ?_)
  refine thn_n ?_
  refine WP.seq ?_
  refine WP.seq ?_
  refine WP.region _ rfl (by kernel_rfl) ?_
  refine OPS.batch 1 {} [] [0, 1, 11] [.slice a n c, .slice ao no co, .slice a n c] .nil (by kernel_rfl) (fun b2 => ?_)
  refine OPS.cons (opStep.call (some 12) [.slice a n c] (by kernel_rfl) (r21_Fit l _ _ _ _ (by omega) (by omega) (hs.at hp0)) ?_)
  rintro _ w5 ⟨b8, rfl, hb9, hf6⟩
  refine ⟨_, rfl, ?_⟩
  have hp7 := hp0.step hf6
  refine OPS.batch 1 {} [] [0, 1, 13] [.slice a n c, .slice ao no co, .bool (!b8)] .nil (by kernel_rfl) (fun b10 => ?_)
  refine OPS.nil ?_
  refine thn_n ?_
  refine WP.test (p := ¬ (fitP l)) rfl (Bp.not hb9) (fun h11 => ?_) (fun h11 => ?_)
  · refine WP.seq ?_
    refine WP.pure {} [] [4] [.int .i64 1] .nil (by kernel_rfl) (fun b12 => ?_)
    refine thn_n ?_
    refine WP.ret ?_
    refine thn_r ?_
    refine bodyQ.of _ rfl [.int .i64 1] ⟨rfl, trivial⟩ ?_
    exact ⟨by simp only [pack]; rw [chkO_1 h11], hp7.fr⟩
  · replace h11 := Classical.not_not.1 h11
    refine WP.skip ?_
    refine thn_n ?_
    refine WP.seq ?_
    refine WP.seq ?_
    refine WP.region _ rfl (by kernel_rfl) ?_
    refine OPS.batch 2 {} [] [0, 1, 14, 15] [.slice a n c, .slice ao no co, .slice a n c, .slice ao no co] .nil (by kernel_rfl) (fun b13 => ?_)
    refine OPS.cons (opStep.call (some 16) [.slice a n c, .slice ao no co] (by kernel_rfl) (r21_members l _ _ _ _ (by omega) (by omega) (hs.at hp7) o _ _ _ (by omega) (by omega) (hso.at hp7)) ?_)
    rintro _ w16 ⟨b19, rfl, hb20, hf17⟩
    refine ⟨_, rfl, ?_⟩
    have hp18 := hp7.step hf17
    refine OPS.batch 1 {} [] [0, 1, 17] [.slice a n c, .slice ao no co, .bool (!b19)] .nil (by kernel_rfl) (fun b21 => ?_)
    refine OPS.nil ?_
    refine thn_n ?_
    refine WP.test (p := ¬ (wholeP l o)) rfl (Bp.not hb20) (fun h22 => ?_) (fun h22 => ?_)
    · refine WP.seq ?_
      refine WP.pure {} [] [4] [.int .i64 81] .nil (by kernel_rfl) (fun b23 => ?_)
      refine thn_n ?_
      refine WP.ret ?_
      refine thn_r ?_
      refine bodyQ.of _ rfl [.int .i64 81] ⟨rfl, trivial⟩ ?_
      exact ⟨by simp only [pack]; rw [chkO_81 h11 (fun z => by exact h22 z.1)], hp18.fr⟩
    · replace h22 := Classical.not_not.1 h22
      refine WP.skip ?_
      refine thn_n ?_
      refine WP.seq ?_
      refine WP.seq ?_
      refine WP.pure {} [] [0, 1, 5] [.slice a n c, .slice ao no co, .int .i64 0] .nil (by kernel_rfl) (fun b24 => ?_)
      refine thn_n ?_
      refine WP.block ?_
      have hin : ∀ j, j < o.length → 0 ≤ o[j]! ∧ o[j]! < (l.length : Int) := fun j hj => ⟨(h22.1 j hj).1, (h22.1 j hj).2.1⟩
      refine WP.loop (fun mz_ e25 w26 => ∃ (k : Nat), mz_ = o.length - k ∧ (k ≤ o.length ∧ (∀ j, j < k → ¬ (¬ (atO l o j).Open = true ∧ (atO l o j).To < begF l o j)) ∧ ∀ j, j < k → toldC w l o j) ∧ List.map e25 [0, 1, 5] = [.slice a n c, .slice ao no co, .int .i64 (k : Int)] ∧ Hp w Non [] w26) (o.length - (0)) ⟨0, rfl, ⟨by omega, fun j hj => by omega, fun j hj => by omega⟩, by kernel_rfl, hp18⟩ ?_
      rintro _ e25 w26 ⟨k, rfl, hI28, hE29, hp27⟩
      obtain ⟨b30, rfl⟩ := toMk hE29
      clear hE29
      obtain ⟨pa, pb, pc⟩ := hI28
      have hik := hin k
      refine WP.seq ?_
      refine WP.seq ?_
      refine WP.pure {} [] [0, 1, 5, 21] [.slice a n c, .slice ao no co, .int .i64 (k : Int), .bool (decide ((k : Int) < ((no : Nat) : Int)))] .nil (by kernel_rfl) (fun b31 => ?_)
      refine thn_n ?_
      refine WP.test (p := (k : Int) < ((no : Nat) : Int)) rfl Bp.dec (fun h32 => ?_) (fun h32 => ?_)
      · refine WP.skip ?_
        refine thn_n ?_
        refine WP.seq ?_
        refine WP.block ?_
        refine WP.seq ?_
        refine WP.region _ rfl (by kernel_rfl) ?_
        have hy38 : (o)[k]? = some o[k]! := get_bang (by first | (omega) | (simp only [List.length_append, List.length_cons, List.length_nil]; omega) | (simp only [List.length_take, List.length_append, List.length_cons, List.length_nil]; omega))
        have hy40 : (l)[(o[k]! : Int).toNat]? = some l[(o[k]! : Int).toNat]! := get_bang (by first | (omega) | (simp only [List.length_append, List.length_cons, List.length_nil]; omega) | (simp only [List.length_take, List.length_append, List.length_cons, List.length_nil]; omega))
        refine OPS.batch 7 {} [.int .i64 (o[k]!), GCall.val (l[(o[k]! : Int).toNat]!)] [0, 1, 5, 30] [.slice a n c, .slice ao no co, .int .i64 (k : Int), GCall.val (l[(o[k]! : Int).toNat]!)] (.cons (show InB ((k : Int)) (no) from ⟨by omega, by omega⟩) (.cons ((hso.at hp27).some (by omega)) (.cons (Ld.add0 (Ld.el1 (P := Try.prog) (t := 3) (hso.at hp27).rd 1 (fun _ => rfl) hy38 (o := 0) (v := .int .i64 (o[k]!)) (by kernel_rfl))) (.cons (show InB (o[k]!) (n) from ⟨by omega, by omega⟩) (.cons ((hs.at hp27).some (by omega)) (.cons (Ld.add0 (Ld.elN (P := Try.prog) (t := 73) (hs.at hp27).rd 11 (fun _ => rfl) hy40 (o := 0) (cs := [.int .i64 (l[(o[k]! : Int).toNat]!.Client), .int .i64 (l[(o[k]! : Int).toNat]!.Op), .bool (l[(o[k]! : Int).toNat]!.Put), .string (l[(o[k]! : Int).toNat]!.Key), .slice (l[(o[k]! : Int).toNat]!.Value.a) (l[(o[k]! : Int).toNat]!.Value.n) (l[(o[k]! : Int).toNat]!.Value.c), .int .i64 (l[(o[k]! : Int).toNat]!.Status), .int .i64 (l[(o[k]! : Int).toNat]!.From), .int .i64 (l[(o[k]! : Int).toNat]!.To), .bool (l[(o[k]! : Int).toNat]!.Open), .int .i64 (l[(o[k]! : Int).toNat]!.Tag.Count), .int .i64 (l[(o[k]! : Int).toNat]!.Tag.Client)]) (by kernel_rfl))) .nil)))))) (by kernel_rfl) (fun b41 => ?_)
        refine OPS.cons (opStep.alloc hp27 [.int .i64 0, .int .i64 0, .bool false, .string ByteArray.empty, .slice none 0 0, .int .i64 0, .int .i64 0, .int .i64 0, .bool false, .int .i64 0, .int .i64 0] (by kernel_rfl) (fun g44 w42 hp43 => ?_))
        refine OPS.cons (opStep.store0 hp43 rfl [.int .i64 (l[(o[k]! : Int).toNat]!.Client), .int .i64 (l[(o[k]! : Int).toNat]!.Op), .bool (l[(o[k]! : Int).toNat]!.Put), .string (l[(o[k]! : Int).toNat]!.Key), .slice (l[(o[k]! : Int).toNat]!.Value.a) (l[(o[k]! : Int).toNat]!.Value.n) (l[(o[k]! : Int).toNat]!.Value.c), .int .i64 (l[(o[k]! : Int).toNat]!.Status), .int .i64 (l[(o[k]! : Int).toNat]!.From), .int .i64 (l[(o[k]! : Int).toNat]!.To), .bool (l[(o[k]! : Int).toNat]!.Open), .int .i64 (l[(o[k]! : Int).toNat]!.Tag.Count), .int .i64 (l[(o[k]! : Int).toNat]!.Tag.Client)] [.int .i64 (l[(o[k]! : Int).toNat]!.Client), .int .i64 (l[(o[k]! : Int).toNat]!.Op), .bool (l[(o[k]! : Int).toNat]!.Put), .string (l[(o[k]! : Int).toNat]!.Key), .slice (l[(o[k]! : Int).toNat]!.Value.a) (l[(o[k]! : Int).toNat]!.Value.n) (l[(o[k]! : Int).toNat]!.Value.c), .int .i64 (l[(o[k]! : Int).toNat]!.Status), .int .i64 (l[(o[k]! : Int).toNat]!.From), .int .i64 (l[(o[k]! : Int).toNat]!.To), .bool (l[(o[k]! : Int).toNat]!.Open), .int .i64 (l[(o[k]! : Int).toNat]!.Tag.Count), .int .i64 (l[(o[k]! : Int).toNat]!.Tag.Client)] (by kernel_rfl) (fun w45 hp46 => ?_))
        refine OPS.nil ?_
        refine thn_n ?_
        refine WP.seq ?_
        refine WP.seq ?_
        refine WP.pure {} [] [0, 1, 5, 6, 7] [.slice a n c, .slice ao no co, .int .i64 (k : Int), .pointer (some ⟨g44, 0, none⟩), .int .i64 0] .nil (by kernel_rfl) (fun b47 => ?_)
        refine thn_n ?_
        refine WP.block ?_
        refine WP.loop (fun mz_ e48 w49 => ∃ (i : Nat), mz_ = k - i ∧ (i ≤ k ∧ ∀ m, m < i → ¬ (¬ (atO l o k).Open = true ∧ (atO l o k).To < (atO l o m).From)) ∧ List.map e48 [0, 1, 5, 6, 7] = [.slice a n c, .slice ao no co, .int .i64 (k : Int), .pointer (some ⟨g44, 0, none⟩), .int .i64 (i : Int)] ∧ Hp w Non [Res.row g44 [.int .i64 (l[(o[k]! : Int).toNat]!.Client), .int .i64 (l[(o[k]! : Int).toNat]!.Op), .bool (l[(o[k]! : Int).toNat]!.Put), .string (l[(o[k]! : Int).toNat]!.Key), .slice (l[(o[k]! : Int).toNat]!.Value.a) (l[(o[k]! : Int).toNat]!.Value.n) (l[(o[k]! : Int).toNat]!.Value.c), .int .i64 (l[(o[k]! : Int).toNat]!.Status), .int .i64 (l[(o[k]! : Int).toNat]!.From), .int .i64 (l[(o[k]! : Int).toNat]!.To), .bool (l[(o[k]! : Int).toNat]!.Open), .int .i64 (l[(o[k]! : Int).toNat]!.Tag.Count), .int .i64 (l[(o[k]! : Int).toNat]!.Tag.Client)] 73] w49) (k - (0)) ⟨0, rfl, ⟨by omega, fun j hj => by omega⟩, by kernel_rfl, hp46⟩ ?_
        rintro _ e48 w49 ⟨i, rfl, hI51, hE52, hp50⟩
        obtain ⟨b53, rfl⟩ := toMk hE52
        clear hE52
        obtain ⟨qa, qb⟩ := hI51
        have hii := hin i
        refine WP.seq ?_
        refine WP.seq ?_
        refine WP.pure {} [] [0, 1, 5, 6, 7, 33] [.slice a n c, .slice ao no co, .int .i64 (k : Int), .pointer (some ⟨g44, 0, none⟩), .int .i64 (i : Int), .bool (decide ((i : Int) < (k : Int)))] .nil (by kernel_rfl) (fun b54 => ?_)
        refine thn_n ?_
        refine WP.test (p := (i : Int) < (k : Int)) rfl Bp.dec (fun h55 => ?_) (fun h55 => ?_)
        · refine WP.skip ?_
          refine thn_n ?_
          refine WP.seq ?_
          refine WP.block ?_
          refine WP.seq ?_
          refine WP.region _ rfl (by kernel_rfl) ?_
          have hy61 : (o)[i]? = some o[i]! := get_bang (by first | (omega) | (simp only [List.length_append, List.length_cons, List.length_nil]; omega) | (simp only [List.length_take, List.length_append, List.length_cons, List.length_nil]; omega))
          have hy63 : (l)[(o[i]! : Int).toNat]? = some l[(o[i]! : Int).toNat]! := get_bang (by first | (omega) | (simp only [List.length_append, List.length_cons, List.length_nil]; omega) | (simp only [List.length_take, List.length_append, List.length_cons, List.length_nil]; omega))
          refine OPS.batch 7 {} [.int .i64 (o[i]!), GCall.val (l[(o[i]! : Int).toNat]!)] [0, 1, 5, 6, 7, 42] [.slice a n c, .slice ao no co, .int .i64 (k : Int), .pointer (some ⟨g44, 0, none⟩), .int .i64 (i : Int), GCall.val (l[(o[i]! : Int).toNat]!)] (.cons (show InB ((i : Int)) (no) from ⟨by omega, by omega⟩) (.cons ((hso.at hp50).some (by omega)) (.cons (Ld.add0 (Ld.el1 (P := Try.prog) (t := 3) (hso.at hp50).rd 1 (fun _ => rfl) hy61 (o := 0) (v := .int .i64 (o[i]!)) (by kernel_rfl))) (.cons (show InB (o[i]!) (n) from ⟨by omega, by omega⟩) (.cons ((hs.at hp50).some (by omega)) (.cons (Ld.add0 (Ld.elN (P := Try.prog) (t := 73) (hs.at hp50).rd 11 (fun _ => rfl) hy63 (o := 0) (cs := [.int .i64 (l[(o[i]! : Int).toNat]!.Client), .int .i64 (l[(o[i]! : Int).toNat]!.Op), .bool (l[(o[i]! : Int).toNat]!.Put), .string (l[(o[i]! : Int).toNat]!.Key), .slice (l[(o[i]! : Int).toNat]!.Value.a) (l[(o[i]! : Int).toNat]!.Value.n) (l[(o[i]! : Int).toNat]!.Value.c), .int .i64 (l[(o[i]! : Int).toNat]!.Status), .int .i64 (l[(o[i]! : Int).toNat]!.From), .int .i64 (l[(o[i]! : Int).toNat]!.To), .bool (l[(o[i]! : Int).toNat]!.Open), .int .i64 (l[(o[i]! : Int).toNat]!.Tag.Count), .int .i64 (l[(o[i]! : Int).toNat]!.Tag.Client)]) (by kernel_rfl))) .nil)))))) (by kernel_rfl) (fun b64 => ?_)
          refine OPS.cons (opStep.alloc hp50 [.int .i64 0, .int .i64 0, .bool false, .string ByteArray.empty, .slice none 0 0, .int .i64 0, .int .i64 0, .int .i64 0, .bool false, .int .i64 0, .int .i64 0] (by kernel_rfl) (fun g67 w65 hp66 => ?_))
          refine OPS.cons (opStep.store0 hp66 rfl [.int .i64 (l[(o[i]! : Int).toNat]!.Client), .int .i64 (l[(o[i]! : Int).toNat]!.Op), .bool (l[(o[i]! : Int).toNat]!.Put), .string (l[(o[i]! : Int).toNat]!.Key), .slice (l[(o[i]! : Int).toNat]!.Value.a) (l[(o[i]! : Int).toNat]!.Value.n) (l[(o[i]! : Int).toNat]!.Value.c), .int .i64 (l[(o[i]! : Int).toNat]!.Status), .int .i64 (l[(o[i]! : Int).toNat]!.From), .int .i64 (l[(o[i]! : Int).toNat]!.To), .bool (l[(o[i]! : Int).toNat]!.Open), .int .i64 (l[(o[i]! : Int).toNat]!.Tag.Count), .int .i64 (l[(o[i]! : Int).toNat]!.Tag.Client)] [.int .i64 (l[(o[i]! : Int).toNat]!.Client), .int .i64 (l[(o[i]! : Int).toNat]!.Op), .bool (l[(o[i]! : Int).toNat]!.Put), .string (l[(o[i]! : Int).toNat]!.Key), .slice (l[(o[i]! : Int).toNat]!.Value.a) (l[(o[i]! : Int).toNat]!.Value.n) (l[(o[i]! : Int).toNat]!.Value.c), .int .i64 (l[(o[i]! : Int).toNat]!.Status), .int .i64 (l[(o[i]! : Int).toNat]!.From), .int .i64 (l[(o[i]! : Int).toNat]!.To), .bool (l[(o[i]! : Int).toNat]!.Open), .int .i64 (l[(o[i]! : Int).toNat]!.Tag.Count), .int .i64 (l[(o[i]! : Int).toNat]!.Tag.Client)] (by kernel_rfl) (fun w68 hp69 => ?_))
          refine OPS.nil ?_
          refine thn_n ?_
          refine WP.cut (fun e79 w80 => ∃ (x77 : Bool), (True) ∧ Bp x77 ((¬ ((l[(o[k]! : Int).toNat]!.Open) = true)) ∧ ((l[(o[k]! : Int).toNat]!.To) < (l[(o[i]! : Int).toNat]!.From))) ∧ List.map e79 [0, 1, 5, 6, 7, 52] = [.slice a n c, .slice ao no co, .int .i64 (k : Int), .pointer (some ⟨g44, 0, none⟩), .int .i64 (i : Int), .bool x77] ∧ Hp w Non [Res.row g67 [.int .i64 (l[(o[i]! : Int).toNat]!.Client), .int .i64 (l[(o[i]! : Int).toNat]!.Op), .bool (l[(o[i]! : Int).toNat]!.Put), .string (l[(o[i]! : Int).toNat]!.Key), .slice (l[(o[i]! : Int).toNat]!.Value.a) (l[(o[i]! : Int).toNat]!.Value.n) (l[(o[i]! : Int).toNat]!.Value.c), .int .i64 (l[(o[i]! : Int).toNat]!.Status), .int .i64 (l[(o[i]! : Int).toNat]!.From), .int .i64 (l[(o[i]! : Int).toNat]!.To), .bool (l[(o[i]! : Int).toNat]!.Open), .int .i64 (l[(o[i]! : Int).toNat]!.Tag.Count), .int .i64 (l[(o[i]! : Int).toNat]!.Tag.Client)] 73, Res.row g44 [.int .i64 (l[(o[k]! : Int).toNat]!.Client), .int .i64 (l[(o[k]! : Int).toNat]!.Op), .bool (l[(o[k]! : Int).toNat]!.Put), .string (l[(o[k]! : Int).toNat]!.Key), .slice (l[(o[k]! : Int).toNat]!.Value.a) (l[(o[k]! : Int).toNat]!.Value.n) (l[(o[k]! : Int).toNat]!.Value.c), .int .i64 (l[(o[k]! : Int).toNat]!.Status), .int .i64 (l[(o[k]! : Int).toNat]!.From), .int .i64 (l[(o[k]! : Int).toNat]!.To), .bool (l[(o[k]! : Int).toNat]!.Open), .int .i64 (l[(o[k]! : Int).toNat]!.Tag.Count), .int .i64 (l[(o[k]! : Int).toNat]!.Tag.Client)] 73] w80) ?_ ?_
          · refine WP.region _ rfl (by kernel_rfl) ?_
            refine OPS.batch 4 {} [.bool (l[(o[k]! : Int).toNat]!.Open)] [0, 1, 5, 6, 7, 8, 46] [.slice a n c, .slice ao no co, .int .i64 (k : Int), .pointer (some ⟨g44, 0, none⟩), .int .i64 (i : Int), .pointer (some ⟨g67, 0, none⟩), .bool (!(l[(o[k]! : Int).toNat]!.Open))] (.cons (Ld.row1 (P := Try.prog) (t := 4) (o := 8) (v := .bool (l[(o[k]! : Int).toNat]!.Open)) hp69.get1 (by kernel_rfl)) .nil) (by kernel_rfl) (fun b71 => ?_)
            by_cases h72 : (l[(o[k]! : Int).toNat]!.Open) = true
            · refine OPS.batch 0 {} [] [0, 1, 5, 6, 7, 8, 46] [.slice a n c, .slice ao no co, .int .i64 (k : Int), .pointer (some ⟨g44, 0, none⟩), .int .i64 (i : Int), .pointer (some ⟨g67, 0, none⟩), .bool (!(l[(o[k]! : Int).toNat]!.Open))] .nil (by kernel_rfl) (fun b75 => ?_)
              refine OPS.re [.slice a n c, .slice ao no co, .int .i64 (k : Int), .pointer (some ⟨g44, 0, none⟩), .int .i64 (i : Int), .pointer (some ⟨g67, 0, none⟩), .bool false] (by rw [show (!(l[(o[k]! : Int).toNat]!.Open)) = false from (Bp.not Bp.var).ff (fun k => k h72)]) ?_
              refine OPS.batch 6 { wraps := [52] } [] [0, 1, 5, 6, 7, 52] [.slice a n c, .slice ao no co, .int .i64 (k : Int), .pointer (some ⟨g44, 0, none⟩), .int .i64 (i : Int), .bool false] .nil (by kernel_rfl) (fun b76 => ?_)
              refine OPS.nil ?_
              refine thn_n ?_
              exact ⟨false, trivial, Bp.of Bp.f (by first | (simp only [h72, iff_false, false_iff, iff_true, true_iff, Classical.not_not, and_true, true_and, and_false, false_and, or_true, true_or, or_false, false_or, not_true_eq_false, not_false_eq_true, and_self, or_self, iff_self]; done) | (simp [h72]; done) | grind | (simp_all; done)), by kernel_rfl, hp69⟩
            · refine OPS.batch 0 {} [] [0, 1, 5, 6, 7, 8, 46] [.slice a n c, .slice ao no co, .int .i64 (k : Int), .pointer (some ⟨g44, 0, none⟩), .int .i64 (i : Int), .pointer (some ⟨g67, 0, none⟩), .bool (!(l[(o[k]! : Int).toNat]!.Open))] .nil (by kernel_rfl) (fun b73 => ?_)
              refine OPS.re [.slice a n c, .slice ao no co, .int .i64 (k : Int), .pointer (some ⟨g44, 0, none⟩), .int .i64 (i : Int), .pointer (some ⟨g67, 0, none⟩), .bool true] (by rw [show (!(l[(o[k]! : Int).toNat]!.Open)) = true from (Bp.not Bp.var).tt h72]) ?_
              refine OPS.batch 6 { wraps := [52] } [.int .i64 (l[(o[k]! : Int).toNat]!.To), .int .i64 (l[(o[i]! : Int).toNat]!.From)] [0, 1, 5, 6, 7, 52] [.slice a n c, .slice ao no co, .int .i64 (k : Int), .pointer (some ⟨g44, 0, none⟩), .int .i64 (i : Int), .bool (decide ((l[(o[k]! : Int).toNat]!.To) < (l[(o[i]! : Int).toNat]!.From)))] (.cons (Ld.row1 (P := Try.prog) (t := 3) (o := 7) (v := .int .i64 (l[(o[k]! : Int).toNat]!.To)) hp69.get1 (by kernel_rfl)) (.cons (Ld.row1 (P := Try.prog) (t := 3) (o := 6) (v := .int .i64 (l[(o[i]! : Int).toNat]!.From)) hp69.get0 (by kernel_rfl)) .nil)) (by kernel_rfl) (fun b74 => ?_)
              refine OPS.nil ?_
              refine thn_n ?_
              exact ⟨decide ((l[(o[k]! : Int).toNat]!.To) < (l[(o[i]! : Int).toNat]!.From)), trivial, Bp.of Bp.dec (by first | (simp only [h72, iff_false, false_iff, iff_true, true_iff, Classical.not_not, and_true, true_and, and_false, false_and, or_true, true_or, or_false, false_or, not_true_eq_false, not_false_eq_true, and_self, or_self, iff_self]; done) | (simp [h72]; done) | grind | (simp_all; done)), by kernel_rfl, hp69⟩
          rintro e79 w80 ⟨x77, hd82, hb78, hE83, hp81⟩
          obtain ⟨b84, rfl⟩ := toMk hE83
          clear hE83
          clear hd82
          refine WP.test (p := (¬ ((l[(o[k]! : Int).toNat]!.Open) = true)) ∧ ((l[(o[k]! : Int).toNat]!.To) < (l[(o[i]! : Int).toNat]!.From))) rfl hb78 (fun h85 => ?_) (fun h85 => ?_)
          · refine WP.seq ?_
            refine WP.pure {} [] [4] [.int .i64 81] .nil (by kernel_rfl) (fun b86 => ?_)
            refine thn_n ?_
            refine WP.ret ?_
            refine blk_r ?_
            refine thn_r ?_
            refine thn_r ?_
            refine blk_r ?_
            refine thn_r ?_
            refine blk_r ?_
            refine thn_r ?_
            refine thn_r ?_
            refine blk_r ?_
            refine thn_r ?_
            refine bodyQ.of _ rfl [.int .i64 81] ⟨rfl, trivial⟩ ?_
            exact ⟨by simp only [pack]; rw [chkO_81 h11 (fun z => by exact z.2.1 k (by omega) (tim_no (m := i) (by omega) h85))], hp81.fr⟩
          · refine WP.skip ?_
            refine blk_n ?_
            refine thn_n ?_
            refine WP.pure {} [] [0, 1, 5, 6, 7] [.slice a n c, .slice ao no co, .int .i64 (k : Int), .pointer (some ⟨g44, 0, none⟩), .int .i64 ((i : Int) + 1)] (.cons (show Rng .i64 ((i : Int) + 1) from Rng.i64 (by omega)) .nil) (by kernel_rfl) (fun b87 => ?_)
            refine thn_n ?_
            exact ⟨k - (i + 1), (by omega), i + 1, rfl, ⟨by omega, fun j hj => by by_cases e : j = i; subst e; exact h85; exact qb j (by omega)⟩, by kernel_rfl, (hp81.sub (.cons _ (.cons_cons _ (.slnil))))⟩
        · refine WP.exit ?_
          refine thn_x ?_
          refine thn_x ?_
          refine blk_hit ?_
          refine thn_n ?_
          refine WP.seq ?_
          refine WP.seq ?_
          refine WP.pure {} [.bool (l[(o[k]! : Int).toNat]!.Put)] [0, 1, 5, 6, 54] [.slice a n c, .slice ao no co, .int .i64 (k : Int), .pointer (some ⟨g44, 0, none⟩), .bool (l[(o[k]! : Int).toNat]!.Put)] (.cons (Ld.row1 (P := Try.prog) (t := 4) (o := 2) (v := .bool (l[(o[k]! : Int).toNat]!.Put)) hp50.get0 (by kernel_rfl)) .nil) (by kernel_rfl) (fun b88 => ?_)
          refine thn_n ?_
          refine WP.test (p := (l[(o[k]! : Int).toNat]!.Put) = true) rfl Bp.var (fun h89 => ?_) (fun h89 => ?_)
          · refine WP.exit ?_
            refine thn_x ?_
            refine blk_hit ?_
            refine thn_n ?_
            refine WP.pure {} [] [0, 1, 5] [.slice a n c, .slice ao no co, .int .i64 ((k : Int) + 1)] (.cons (show Rng .i64 ((k : Int) + 1) from Rng.i64 (by omega)) .nil) (by kernel_rfl) (fun b90 => ?_)
            refine thn_n ?_
            exact ⟨o.length - (k + 1), (by omega), k + 1, rfl, ⟨by omega, fun j hj => by by_cases e : j = k; subst e; exact tim_yes h11 (h22.1 j (by omega)) (fun m hm => qb m (by omega)); exact pb j (by omega), fun j hj => by by_cases e : j = k; subst e; exact told_put (show (atO l o j).Put = true from h89); exact pc j (by omega)⟩, by kernel_rfl, (hp50.sub (.cons _ (.slnil)))⟩
          · refine WP.skip ?_
            refine thn_n ?_
            refine WP.seq ?_
            refine WP.pure {} [] [0, 1, 5, 6, 9] [.slice a n c, .slice ao no co, .int .i64 (k : Int), .pointer (some ⟨g44, 0, none⟩), .int .i64 (-1)] .nil (by kernel_rfl) (fun b91 => ?_)
            refine thn_n ?_
            refine WP.seq ?_
            refine WP.seq ?_
            refine WP.pure {} [] [0, 1, 5, 6, 9, 10] [.slice a n c, .slice ao no co, .int .i64 (k : Int), .pointer (some ⟨g44, 0, none⟩), .int .i64 (-1), .int .i64 0] .nil (by kernel_rfl) (fun b92 => ?_)
            refine thn_n ?_
            refine WP.block ?_
            refine WP.loop (fun mz_ e93 w94 => ∃ (i2 : Nat) (la : Int), mz_ = k - i2 ∧ (i2 ≤ k ∧ la = lastF l o i2) ∧ List.map e93 [0, 1, 5, 6, 9, 10] = [.slice a n c, .slice ao no co, .int .i64 (k : Int), .pointer (some ⟨g44, 0, none⟩), .int .i64 la, .int .i64 (i2 : Int)] ∧ Hp w Non [Res.row g44 [.int .i64 (l[(o[k]! : Int).toNat]!.Client), .int .i64 (l[(o[k]! : Int).toNat]!.Op), .bool (l[(o[k]! : Int).toNat]!.Put), .string (l[(o[k]! : Int).toNat]!.Key), .slice (l[(o[k]! : Int).toNat]!.Value.a) (l[(o[k]! : Int).toNat]!.Value.n) (l[(o[k]! : Int).toNat]!.Value.c), .int .i64 (l[(o[k]! : Int).toNat]!.Status), .int .i64 (l[(o[k]! : Int).toNat]!.From), .int .i64 (l[(o[k]! : Int).toNat]!.To), .bool (l[(o[k]! : Int).toNat]!.Open), .int .i64 (l[(o[k]! : Int).toNat]!.Tag.Count), .int .i64 (l[(o[k]! : Int).toNat]!.Tag.Client)] 73] w94) (k - (0)) ⟨0, (-1), rfl, ⟨by omega, rfl⟩, by kernel_rfl, hp50⟩ ?_
            rintro _ e93 w94 ⟨i2, la, rfl, hI96, hE97, hp95⟩
            obtain ⟨b98, rfl⟩ := toMk hE97
            clear hE97
            obtain ⟨ra, rb⟩ := hI96
            have hi2 := hin i2
            have hlm := lastF_in hin i2 (by omega)
            rw [← rb] at hlm
            refine WP.seq ?_
            refine WP.seq ?_
            refine WP.pure {} [] [0, 1, 5, 6, 9, 10, 57] [.slice a n c, .slice ao no co, .int .i64 (k : Int), .pointer (some ⟨g44, 0, none⟩), .int .i64 la, .int .i64 (i2 : Int), .bool (decide ((i2 : Int) < (k : Int)))] .nil (by kernel_rfl) (fun b99 => ?_)
            refine thn_n ?_
            refine WP.test (p := (i2 : Int) < (k : Int)) rfl Bp.dec (fun h100 => ?_) (fun h100 => ?_)
            · refine WP.skip ?_
              refine thn_n ?_
              refine WP.seq ?_
              refine WP.block ?_
              refine WP.seq ?_
              have hy102 : (o)[i2]? = some o[i2]! := get_bang (by first | (omega) | (simp only [List.length_append, List.length_cons, List.length_nil]; omega) | (simp only [List.length_take, List.length_append, List.length_cons, List.length_nil]; omega))
              have hy104 : (l)[(o[i2]! : Int).toNat]? = some l[(o[i2]! : Int).toNat]! := get_bang (by first | (omega) | (simp only [List.length_append, List.length_cons, List.length_nil]; omega) | (simp only [List.length_take, List.length_append, List.length_cons, List.length_nil]; omega))
              refine WP.pure {} [.int .i64 (o[i2]!), .bool (l[(o[i2]! : Int).toNat]!.Put)] [0, 1, 5, 6, 9, 10, 67] [.slice a n c, .slice ao no co, .int .i64 (k : Int), .pointer (some ⟨g44, 0, none⟩), .int .i64 la, .int .i64 (i2 : Int), .bool (l[(o[i2]! : Int).toNat]!.Put)] (.cons (show InB ((i2 : Int)) (no) from ⟨by omega, by omega⟩) (.cons ((hso.at hp95).some (by omega)) (.cons (Ld.add0 (Ld.el1 (P := Try.prog) (t := 3) (hso.at hp95).rd 1 (fun _ => rfl) hy102 (o := 0) (v := .int .i64 (o[i2]!)) (by kernel_rfl))) (.cons (show InB (o[i2]!) (n) from ⟨by omega, by omega⟩) (.cons ((hs.at hp95).some (by omega)) (.cons (Ld.el1 (P := Try.prog) (t := 4) (hs.at hp95).rd 11 (fun _ => rfl) hy104 (o := 2) (v := .bool (l[(o[i2]! : Int).toNat]!.Put)) (by kernel_rfl)) .nil)))))) (by kernel_rfl) (fun b105 => ?_)
              refine thn_n ?_
              refine WP.test (p := (l[(o[i2]! : Int).toNat]!.Put) = true) rfl Bp.var (fun h106 => ?_) (fun h106 => ?_)
              · refine WP.pure {} [.int .i64 (o[i2]!)] [0, 1, 5, 6, 9, 10] [.slice a n c, .slice ao no co, .int .i64 (k : Int), .pointer (some ⟨g44, 0, none⟩), .int .i64 (o[i2]!), .int .i64 (i2 : Int)] (.cons (show InB ((i2 : Int)) (no) from ⟨by omega, by omega⟩) (.cons ((hso.at hp95).some (by omega)) (.cons (Ld.add0 (Ld.el1 (P := Try.prog) (t := 3) (hso.at hp95).rd 1 (fun _ => rfl) hy102 (o := 0) (v := .int .i64 (o[i2]!)) (by kernel_rfl))) .nil))) (by kernel_rfl) (fun b107 => ?_)
                refine blk_n ?_
                refine thn_n ?_
                refine WP.pure {} [] [0, 1, 5, 6, 9, 10] [.slice a n c, .slice ao no co, .int .i64 (k : Int), .pointer (some ⟨g44, 0, none⟩), .int .i64 (o[i2]!), .int .i64 ((i2 : Int) + 1)] (.cons (show Rng .i64 ((i2 : Int) + 1) from Rng.i64 (by omega)) .nil) (by kernel_rfl) (fun b108 => ?_)
                refine thn_n ?_
                exact ⟨k - (i2 + 1), (by omega), i2 + 1, o[i2]!, rfl, ⟨by omega, by unfold lastF; rw [if_pos (show (atO l o i2).Put = true from h106)]⟩, by kernel_rfl, hp95⟩
              · refine WP.skip ?_
                refine blk_n ?_
                refine thn_n ?_
                refine WP.pure {} [] [0, 1, 5, 6, 9, 10] [.slice a n c, .slice ao no co, .int .i64 (k : Int), .pointer (some ⟨g44, 0, none⟩), .int .i64 la, .int .i64 ((i2 : Int) + 1)] (.cons (show Rng .i64 ((i2 : Int) + 1) from Rng.i64 (by omega)) .nil) (by kernel_rfl) (fun b109 => ?_)
                refine thn_n ?_
                exact ⟨k - (i2 + 1), (by omega), i2 + 1, la, rfl, ⟨by omega, by rw [rb]; conv => rhs; unfold lastF; rw [if_neg (show ¬ (atO l o i2).Put = true from h106)]⟩, by kernel_rfl, hp95⟩
            · refine WP.exit ?_
              refine thn_x ?_
              refine thn_x ?_
              refine blk_hit ?_
              refine thn_n ?_
              refine WP.seq ?_
              refine WP.cut (fun e125 w126 => ∃ (x123 : Bool), (True) ∧ Bp x123 ((abC (l[(o[k]! : Int).toNat]!)) ∧ (0 ≤ la)) ∧ List.map e125 [0, 1, 5, 6, 9, 77] = [.slice a n c, .slice ao no co, .int .i64 (k : Int), .pointer (some ⟨g44, 0, none⟩), .int .i64 la, .bool x123] ∧ Hp w Non [Res.row g44 [.int .i64 (l[(o[k]! : Int).toNat]!.Client), .int .i64 (l[(o[k]! : Int).toNat]!.Op), .bool (l[(o[k]! : Int).toNat]!.Put), .string (l[(o[k]! : Int).toNat]!.Key), .slice (l[(o[k]! : Int).toNat]!.Value.a) (l[(o[k]! : Int).toNat]!.Value.n) (l[(o[k]! : Int).toNat]!.Value.c), .int .i64 (l[(o[k]! : Int).toNat]!.Status), .int .i64 (l[(o[k]! : Int).toNat]!.From), .int .i64 (l[(o[k]! : Int).toNat]!.To), .bool (l[(o[k]! : Int).toNat]!.Open), .int .i64 (l[(o[k]! : Int).toNat]!.Tag.Count), .int .i64 (l[(o[k]! : Int).toNat]!.Tag.Client)] 73] w126) ?_ ?_
              · refine WP.region _ rfl (by kernel_rfl) ?_
                refine OPS.batch 1 {} [GCall.val (l[(o[k]! : Int).toNat]!)] [0, 1, 5, 6, 9, 72] [.slice a n c, .slice ao no co, .int .i64 (k : Int), .pointer (some ⟨g44, 0, none⟩), .int .i64 la, GCall.val (l[(o[k]! : Int).toNat]!)] (.cons (show Ld Try.prog w94 73 ⟨g44, 0, none⟩ (GCall.val (l[(o[k]! : Int).toNat]!)) from Ld.rowN (cs := [.int .i64 (l[(o[k]! : Int).toNat]!.Client), .int .i64 (l[(o[k]! : Int).toNat]!.Op), .bool (l[(o[k]! : Int).toNat]!.Put), .string (l[(o[k]! : Int).toNat]!.Key), .slice (l[(o[k]! : Int).toNat]!.Value.a) (l[(o[k]! : Int).toNat]!.Value.n) (l[(o[k]! : Int).toNat]!.Value.c), .int .i64 (l[(o[k]! : Int).toNat]!.Status), .int .i64 (l[(o[k]! : Int).toNat]!.From), .int .i64 (l[(o[k]! : Int).toNat]!.To), .bool (l[(o[k]! : Int).toNat]!.Open), .int .i64 (l[(o[k]! : Int).toNat]!.Tag.Count), .int .i64 (l[(o[k]! : Int).toNat]!.Tag.Client)]) hp95.get0 (by kernel_rfl)) .nil) (by kernel_rfl) (fun b111 => ?_)
                refine OPS.cons (opStep.call (some 73) [GCall.val (l[(o[k]! : Int).toNat]!)] (by kernel_rfl) (r21_absent (l[(o[k]! : Int).toNat]!) _) ?_)
                rintro _ w114 ⟨b117, rfl, hb118, hf115⟩
                refine ⟨_, rfl, ?_⟩
                have hp116 := hp95.step hf115
                refine OPS.batch 1 {} [] [0, 1, 5, 6, 9, 74] [.slice a n c, .slice ao no co, .int .i64 (k : Int), .pointer (some ⟨g44, 0, none⟩), .int .i64 la, .bool b117] .nil (by kernel_rfl) (fun b119 => ?_)
                by_cases h120 : abC (l[(o[k]! : Int).toNat]!)
                · rw [show b117 = true from hb118.tt h120]
                  refine OPS.batch 3 { wraps := [77] } [] [0, 1, 5, 6, 9, 77] [.slice a n c, .slice ao no co, .int .i64 (k : Int), .pointer (some ⟨g44, 0, none⟩), .int .i64 la, .bool (decide (0 ≤ la))] .nil (by kernel_rfl) (fun b121 => ?_)
                  refine OPS.nil ?_
                  refine thn_n ?_
                  exact ⟨decide (0 ≤ la), trivial, Bp.of Bp.dec (by first | (simp only [h120, iff_false, false_iff, iff_true, true_iff, Classical.not_not, and_true, true_and, and_false, false_and, or_true, true_or, or_false, false_or, not_true_eq_false, not_false_eq_true, and_self, or_self, iff_self]; done) | (simp [h120]; done) | grind | (simp_all; done)), by kernel_rfl, hp116⟩
                · rw [show b117 = false from hb118.ff h120]
                  refine OPS.batch 3 { wraps := [77] } [] [0, 1, 5, 6, 9, 77] [.slice a n c, .slice ao no co, .int .i64 (k : Int), .pointer (some ⟨g44, 0, none⟩), .int .i64 la, .bool false] .nil (by kernel_rfl) (fun b122 => ?_)
                  refine OPS.nil ?_
                  refine thn_n ?_
                  exact ⟨false, trivial, Bp.of Bp.f (by first | (simp only [h120, iff_false, false_iff, iff_true, true_iff, Classical.not_not, and_true, true_and, and_false, false_and, or_true, true_or, or_false, false_or, not_true_eq_false, not_false_eq_true, and_self, or_self, iff_self]; done) | (simp [h120]; done) | grind | (simp_all; done)), by kernel_rfl, hp116⟩
              rintro e125 w126 ⟨x123, hd128, hb124, hE129, hp127⟩
              obtain ⟨b130, rfl⟩ := toMk hE129
              clear hE129
              clear hd128
              refine WP.test (p := (abC (l[(o[k]! : Int).toNat]!)) ∧ (0 ≤ la)) rfl hb124 (fun h131 => ?_) (fun h131 => ?_)
              · refine WP.seq ?_
                refine WP.pure {} [] [4] [.int .i64 81] .nil (by kernel_rfl) (fun b132 => ?_)
                refine thn_n ?_
                refine WP.ret ?_
                refine thn_r ?_
                refine blk_r ?_
                refine thn_r ?_
                refine thn_r ?_
                refine blk_r ?_
                refine thn_r ?_
                refine bodyQ.of _ rfl [.int .i64 81] ⟨rfl, trivial⟩ ?_
                exact ⟨by simp only [pack]; rw [chkO_81 h11 (fun z => by have q_ := told_no1 (z.2.2 k (by omega)); rw [show lastF l o k = la from by rw [rb, show i2 = k from by omega]] at q_; simp only [atO] at q_; have h_ := h131; grind)], hp127.fr⟩
              · refine WP.skip ?_
                refine thn_n ?_
                refine WP.cut (fun e173 w174 => ∃ (x171 : Bool), (True) ∧ Bp x171 (((rdC (l[(o[k]! : Int).toNat]!)) ∧ (la < 0)) ∨ ((rdC (l[(o[k]! : Int).toNat]!)) ∧ (¬ (la < 0)) ∧ (¬ ((valAt w l[(la : Int).toNat]!.Value) = (valAt w l[(o[k]! : Int).toNat]!.Value))))) ∧ List.map e173 [0, 1, 5, 95] = [.slice a n c, .slice ao no co, .int .i64 (k : Int), .bool x171] ∧ Hp w Non [Res.row g44 [.int .i64 (l[(o[k]! : Int).toNat]!.Client), .int .i64 (l[(o[k]! : Int).toNat]!.Op), .bool (l[(o[k]! : Int).toNat]!.Put), .string (l[(o[k]! : Int).toNat]!.Key), .slice (l[(o[k]! : Int).toNat]!.Value.a) (l[(o[k]! : Int).toNat]!.Value.n) (l[(o[k]! : Int).toNat]!.Value.c), .int .i64 (l[(o[k]! : Int).toNat]!.Status), .int .i64 (l[(o[k]! : Int).toNat]!.From), .int .i64 (l[(o[k]! : Int).toNat]!.To), .bool (l[(o[k]! : Int).toNat]!.Open), .int .i64 (l[(o[k]! : Int).toNat]!.Tag.Count), .int .i64 (l[(o[k]! : Int).toNat]!.Tag.Client)] 73] w174) ?_ ?_
                · have hp136 := hp127.drew
                  refine WP.quiet (fun w134 => Hp w Non [Res.row g44 [.int .i64 (l[(o[k]! : Int).toNat]!.Client), .int .i64 (l[(o[k]! : Int).toNat]!.Op), .bool (l[(o[k]! : Int).toNat]!.Put), .string (l[(o[k]! : Int).toNat]!.Key), .slice (l[(o[k]! : Int).toNat]!.Value.a) (l[(o[k]! : Int).toNat]!.Value.n) (l[(o[k]! : Int).toNat]!.Value.c), .int .i64 (l[(o[k]! : Int).toNat]!.Status), .int .i64 (l[(o[k]! : Int).toNat]!.From), .int .i64 (l[(o[k]! : Int).toNat]!.To), .bool (l[(o[k]! : Int).toNat]!.Open), .int .i64 (l[(o[k]! : Int).toNat]!.Tag.Count), .int .i64 (l[(o[k]! : Int).toNat]!.Tag.Client)] 73] w134) (by kernel_rfl) hp136 ?_
                  have hnehp136 : ∃ wz_, (fun w134 => Hp w Non [Res.row g44 [.int .i64 (l[(o[k]! : Int).toNat]!.Client), .int .i64 (l[(o[k]! : Int).toNat]!.Op), .bool (l[(o[k]! : Int).toNat]!.Put), .string (l[(o[k]! : Int).toNat]!.Key), .slice (l[(o[k]! : Int).toNat]!.Value.a) (l[(o[k]! : Int).toNat]!.Value.n) (l[(o[k]! : Int).toNat]!.Value.c), .int .i64 (l[(o[k]! : Int).toNat]!.Status), .int .i64 (l[(o[k]! : Int).toNat]!.From), .int .i64 (l[(o[k]! : Int).toNat]!.To), .bool (l[(o[k]! : Int).toNat]!.Open), .int .i64 (l[(o[k]! : Int).toNat]!.Tag.Count), .int .i64 (l[(o[k]! : Int).toNat]!.Tag.Client)] 73] w134) wz_ := ⟨_, hp136⟩
                  refine QOPS.batch 1 {} [GCall.val (l[(o[k]! : Int).toNat]!)] [0, 1, 5, 6, 9, 78] [.slice a n c, .slice ao no co, .int .i64 (k : Int), .pointer (some ⟨g44, 0, none⟩), .int .i64 la, GCall.val (l[(o[k]! : Int).toNat]!)] hnehp136 (fun w137 hp138 => QB.mk (.cons (show Ld Try.prog w137 73 ⟨g44, 0, none⟩ (GCall.val (l[(o[k]! : Int).toNat]!)) from Ld.rowN (cs := [.int .i64 (l[(o[k]! : Int).toNat]!.Client), .int .i64 (l[(o[k]! : Int).toNat]!.Op), .bool (l[(o[k]! : Int).toNat]!.Put), .string (l[(o[k]! : Int).toNat]!.Key), .slice (l[(o[k]! : Int).toNat]!.Value.a) (l[(o[k]! : Int).toNat]!.Value.n) (l[(o[k]! : Int).toNat]!.Value.c), .int .i64 (l[(o[k]! : Int).toNat]!.Status), .int .i64 (l[(o[k]! : Int).toNat]!.From), .int .i64 (l[(o[k]! : Int).toNat]!.To), .bool (l[(o[k]! : Int).toNat]!.Open), .int .i64 (l[(o[k]! : Int).toNat]!.Tag.Count), .int .i64 (l[(o[k]! : Int).toNat]!.Tag.Client)]) hp138.get0 (by kernel_rfl)) .nil) (by kernel_rfl)) (fun b139 => ?_)
                  refine QOPS.call (some 79) [GCall.val (l[(o[k]! : Int).toNat]!)] (by kernel_rfl) (fun w140 hp141 => (r21_read (l[(o[k]! : Int).toNat]!) _).mono fun _ _ h => by obtain ⟨b, h1, h2, h3⟩ := h; exact ⟨by rw [h1, h2.eq_bo], hp141.step h3⟩) ?_
                  refine QOPS.batch 1 {} [] [0, 1, 5, 6, 9, 80] [.slice a n c, .slice ao no co, .int .i64 (k : Int), .pointer (some ⟨g44, 0, none⟩), .int .i64 la, .bool (bo (rdC (l[(o[k]! : Int).toNat]!)))] hnehp136 (fun w142 hp143 => QB.mk .nil (by kernel_rfl)) (fun b144 => ?_)
                  by_cases h145 : rdC (l[(o[k]! : Int).toNat]!)
                  · refine QOPS.batch 0 {} [] [0, 1, 5, 6, 9, 80] [.slice a n c, .slice ao no co, .int .i64 (k : Int), .pointer (some ⟨g44, 0, none⟩), .int .i64 la, .bool (bo (rdC (l[(o[k]! : Int).toNat]!)))] hnehp136 (fun _ _ => QB.mk .nil (by kernel_rfl)) (fun b146 => ?_)
                    refine QOPS.re [.slice a n c, .slice ao no co, .int .i64 (k : Int), .pointer (some ⟨g44, 0, none⟩), .int .i64 la, .bool true] (by rw [show (bo (rdC (l[(o[k]! : Int).toNat]!))) = true from Bp.bo.tt h145]) ?_
                    refine QOPS.batch 3 {} [] [0, 1, 5, 6, 9, 80, 83] [.slice a n c, .slice ao no co, .int .i64 (k : Int), .pointer (some ⟨g44, 0, none⟩), .int .i64 la, .bool true, .bool (decide (la < 0))] hnehp136 (fun w147 hp148 => QB.mk .nil (by kernel_rfl)) (fun b149 => ?_)
                    by_cases h150 : la < 0
                    · refine QOPS.batch 0 {} [] [0, 1, 5, 6, 9, 80, 83] [.slice a n c, .slice ao no co, .int .i64 (k : Int), .pointer (some ⟨g44, 0, none⟩), .int .i64 la, .bool true, .bool (decide (la < 0))] hnehp136 (fun _ _ => QB.mk .nil (by kernel_rfl)) (fun b151 => ?_)
                      refine QOPS.re [.slice a n c, .slice ao no co, .int .i64 (k : Int), .pointer (some ⟨g44, 0, none⟩), .int .i64 la, .bool true, .bool true] (by rw [show (decide (la < 0)) = true from Bp.dec.tt h150]) ?_
                      refine QOPS.batch 12 { wraps := [94, 95] } [] [0, 1, 5, 95] [.slice a n c, .slice ao no co, .int .i64 (k : Int), .bool true] hnehp136 (fun w152 hp153 => QB.mk .nil (by kernel_rfl)) (fun b154 => ?_)
                      refine QOPS.nil (fun w155 hp156 => ?_)
                      refine thn_n ?_
                      exact ⟨true, trivial, Bp.of Bp.t (by first | (simp only [h145, h150, iff_false, false_iff, iff_true, true_iff, Classical.not_not, and_true, true_and, and_false, false_and, or_true, true_or, or_false, false_or, not_true_eq_false, not_false_eq_true, and_self, or_self, iff_self]; done) | (simp [h145, h150]; done) | grind | (simp_all; done)), by kernel_rfl, hp156⟩
                    · refine QOPS.batch 0 {} [] [0, 1, 5, 6, 9, 80, 83] [.slice a n c, .slice ao no co, .int .i64 (k : Int), .pointer (some ⟨g44, 0, none⟩), .int .i64 la, .bool true, .bool (decide (la < 0))] hnehp136 (fun _ _ => QB.mk .nil (by kernel_rfl)) (fun b157 => ?_)
                      refine QOPS.re [.slice a n c, .slice ao no co, .int .i64 (k : Int), .pointer (some ⟨g44, 0, none⟩), .int .i64 la, .bool true, .bool false] (by rw [show (decide (la < 0)) = false from Bp.dec.ff h150]) ?_
                      have hy161 : (l)[(la : Int).toNat]? = some l[(la : Int).toNat]! := get_bang (by first | (omega) | (simp only [List.length_append, List.length_cons, List.length_nil]; omega) | (simp only [List.length_take, List.length_append, List.length_cons, List.length_nil]; omega))
                      refine QOPS.batch 12 { wraps := [94, 95] } [.slice (l[(la : Int).toNat]!.Value.a) (l[(la : Int).toNat]!.Value.n) (l[(la : Int).toNat]!.Value.c), .string (valAt w l[(la : Int).toNat]!.Value), .slice (l[(o[k]! : Int).toNat]!.Value.a) (l[(o[k]! : Int).toNat]!.Value.n) (l[(o[k]! : Int).toNat]!.Value.c), .string (valAt w l[(o[k]! : Int).toNat]!.Value)] [0, 1, 5, 95] [.slice a n c, .slice ao no co, .int .i64 (k : Int), .bool (decide (¬ ((valAt w l[(la : Int).toNat]!.Value) = (valAt w l[(o[k]! : Int).toNat]!.Value))))] hnehp136 (fun w158 hp159 => QB.mk (.cons (show InB (la) (n) from ⟨by omega, by omega⟩) (.cons ((hs.at hp159).some (by omega)) (.cons (Ld.el1 (P := Try.prog) (t := 71) (hs.at hp159).rd 11 (fun _ => rfl) hy161 (o := 4) (v := .slice (l[(la : Int).toNat]!.Value.a) (l[(la : Int).toNat]!.Value.n) (l[(la : Int).toNat]!.Value.c)) (by kernel_rfl)) (.cons (VB.bs (P := Try.prog) (hv l[(la : Int).toNat]! (List.mem_of_getElem? hy161)) hp159) (.cons (Ld.row1 (P := Try.prog) (t := 71) (o := 4) (v := .slice (l[(o[k]! : Int).toNat]!.Value.a) (l[(o[k]! : Int).toNat]!.Value.n) (l[(o[k]! : Int).toNat]!.Value.c)) hp159.get0 (by kernel_rfl)) (.cons (VB.bs (P := Try.prog) (hv _ (List.mem_of_getElem? (get_bang (l := l) (i := (o[k]! : Int).toNat) (by omega)))) hp159) .nil)))))) (by kernel_rfl)) (fun b162 => ?_)
                      refine QOPS.nil (fun w163 hp164 => ?_)
                      refine thn_n ?_
                      exact ⟨decide (¬ ((valAt w l[(la : Int).toNat]!.Value) = (valAt w l[(o[k]! : Int).toNat]!.Value))), trivial, Bp.of Bp.dec (by first | (simp only [h145, h150, iff_false, false_iff, iff_true, true_iff, Classical.not_not, and_true, true_and, and_false, false_and, or_true, true_or, or_false, false_or, not_true_eq_false, not_false_eq_true, and_self, or_self, iff_self]; done) | (simp [h145, h150]; done) | grind | (simp_all; done)), by kernel_rfl, hp164⟩
                  · refine QOPS.batch 0 {} [] [0, 1, 5, 6, 9, 80] [.slice a n c, .slice ao no co, .int .i64 (k : Int), .pointer (some ⟨g44, 0, none⟩), .int .i64 la, .bool (bo (rdC (l[(o[k]! : Int).toNat]!)))] hnehp136 (fun _ _ => QB.mk .nil (by kernel_rfl)) (fun b165 => ?_)
                    refine QOPS.re [.slice a n c, .slice ao no co, .int .i64 (k : Int), .pointer (some ⟨g44, 0, none⟩), .int .i64 la, .bool false] (by rw [show (bo (rdC (l[(o[k]! : Int).toNat]!))) = false from Bp.bo.ff h145]) ?_
                    refine QOPS.batch 15 { wraps := [95] } [] [0, 1, 5, 95] [.slice a n c, .slice ao no co, .int .i64 (k : Int), .bool false] hnehp136 (fun w166 hp167 => QB.mk .nil (by kernel_rfl)) (fun b168 => ?_)
                    refine QOPS.nil (fun w169 hp170 => ?_)
                    refine thn_n ?_
                    exact ⟨false, trivial, Bp.of Bp.f (by first | (simp only [h145, iff_false, false_iff, iff_true, true_iff, Classical.not_not, and_true, true_and, and_false, false_and, or_true, true_or, or_false, false_or, not_true_eq_false, not_false_eq_true, and_self, or_self, iff_self]; done) | (simp [h145]; done) | grind | (simp_all; done)), by kernel_rfl, hp170⟩
                rintro e173 w174 ⟨x171, hd176, hb172, hE177, hp175⟩
                obtain ⟨b178, rfl⟩ := toMk hE177
                clear hE177
                clear hd176
                refine WP.test (p := ((rdC (l[(o[k]! : Int).toNat]!)) ∧ (la < 0)) ∨ ((rdC (l[(o[k]! : Int).toNat]!)) ∧ (¬ (la < 0)) ∧ (¬ ((valAt w l[(la : Int).toNat]!.Value) = (valAt w l[(o[k]! : Int).toNat]!.Value))))) rfl hb172 (fun h179 => ?_) (fun h179 => ?_)
                · refine WP.seq ?_
                  refine WP.pure {} [] [4] [.int .i64 81] .nil (by kernel_rfl) (fun b180 => ?_)
                  refine thn_n ?_
                  refine WP.ret ?_
                  refine blk_r ?_
                  refine thn_r ?_
                  refine thn_r ?_
                  refine blk_r ?_
                  refine thn_r ?_
                  refine bodyQ.of _ rfl [.int .i64 81] ⟨rfl, trivial⟩ ?_
                  exact ⟨by simp only [pack]; rw [chkO_81 h11 (fun z => by have q_ := told_no2 (z.2.2 k (by omega)); rw [show lastF l o k = la from by rw [rb, show i2 = k from by omega]] at q_; simp only [atO] at q_; have h_ := h179; grind)], hp175.fr⟩
                · refine WP.skip ?_
                  refine blk_n ?_
                  refine thn_n ?_
                  refine WP.pure {} [] [0, 1, 5] [.slice a n c, .slice ao no co, .int .i64 ((k : Int) + 1)] (.cons (show Rng .i64 ((k : Int) + 1) from Rng.i64 (by omega)) .nil) (by kernel_rfl) (fun b181 => ?_)
                  refine thn_n ?_
                  exact ⟨o.length - (k + 1), (by omega), k + 1, rfl, ⟨by omega, fun j hj => by by_cases e : j = k; subst e; exact tim_yes h11 (h22.1 j (by omega)) (fun m hm => qb m (by omega)); exact pb j (by omega), fun j hj => by by_cases e : j = k; subst e; exact told_yes h11 hr hin (by omega) (h22.1 j (by omega)) (by rw [show lastF l o j = la from by rw [rb, show i2 = j from by omega]]; have h_ := h131; simp only [atO]; grind) (by rw [show lastF l o j = la from by rw [rb, show i2 = j from by omega]]; have h_ := h179; simp only [atO]; grind); exact pc j (by omega)⟩, by kernel_rfl, (hp175.sub (.cons _ (.slnil)))⟩
      · refine WP.exit ?_
        refine thn_x ?_
        refine thn_x ?_
        refine blk_hit ?_
        refine thn_n ?_
        refine WP.seq ?_
        refine WP.pure {} [] [4] [.int .i64 0] .nil (by kernel_rfl) (fun b182 => ?_)
        refine thn_n ?_
        refine WP.ret ?_
        refine bodyQ.of _ rfl [.int .i64 0] ⟨rfl, trivial⟩ ?_
        exact ⟨by simp only [pack]; rw [chkO_0 h11 h22 (fun j hj => pb j (by omega)) (fun j hj => pc j (by omega))], hp27.fr⟩

end Go.Proofs.Ytdahgdkadfdkeaa.K
