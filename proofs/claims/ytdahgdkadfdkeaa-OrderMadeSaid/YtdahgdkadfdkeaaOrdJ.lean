/- The walks of OrdJ: what each function computes. -/
import Derived.Test.YtdahgdkadfdkeaaProg
import Derived.Test.YtdahgdkadfdkeaaCoreO
import Derived.Test.YtdahgdkadfdkeaaOrdI
namespace Go.Proofs.Ytdahgdkadfdkeaa.K
open Go Go.Proofs Go.RowKit
set_option linter.unusedVariables false
set_option linter.unusedSimpArgs false
set_option maxRecDepth 20000
set_option maxHeartbeats 4000000

theorem l21_one (w : World) :
    Calls Try.prog 87 #[] w (fun r_ w' => ∃ b b1 b2, r_ = .returned (.slice (some ⟨b, 0, none⟩) 2 2) ∧ Hp w Non [Res.row b ((oneP b1).cells ++ (oneG b2).cells) 73, Res.bs b1 (⟨#[97]⟩ : ByteArray), Res.bs b2 (⟨#[97]⟩ : ByteArray)] w') := by
  refine calls_of Try.func87 rfl 12 rfl (by simp) ?_
  have hp0 := Hp.init w
  have he0 : List.map (env0 []) [] = [] := by kernel_rfl
  obtain ⟨b0, he0⟩ := toMk he0
  rw [he0]
  clear he0
  refine WP.seq ?_
  refine WP.pure {} [] [] [] .nil (by kernel_rfl) (fun b1 => ?_)
  refine thn_n ?_
  refine WP.seq ?_
  refine WP.region _ rfl (by kernel_rfl) ?_
  refine OPS.batch 1 {} [] [2] [.agg #[.int .i64 1, .int .i64 1]] .nil (by kernel_rfl) (fun b2 => ?_)
  refine OPS.cons (opStep.alloc hp0 [.int .i64 0, .int .i64 0] (by kernel_rfl) (fun g5 w3 hp4 => ?_))
  refine OPS.cons (opStep.store0 hp4 rfl [.int .i64 1, .int .i64 1] [.int .i64 1, .int .i64 1] (by kernel_rfl) (fun w6 hp7 => ?_))
  refine OPS.nil ?_
  refine thn_n ?_
  refine WP.seq ?_
  refine WP.region _ rfl (by kernel_rfl) ?_
  refine OPS.cons (opStep.buildSlice (E := 5) hp7 [.int .u8 97] (by kernel_rfl) (fun g10 w8 hp9 => ?_))
  have hp13 := hp9.pull0
  refine OPS.cons (opStep.markBytes hp13 (by kernel_rfl) rfl (⟨#[97]⟩ : ByteArray) (by kernel_rfl) (fun w11 hp12 => ?_))
  refine OPS.batch 2 {} [.agg #[.int .i64 1, .int .i64 1]] [1, 6] [.pointer (some ⟨g5, 0, none⟩), .agg #[.int .i64 1, .int .i64 1, .bool true, .string ⟨#[107]⟩, .slice (some ⟨g10, 0, none⟩) 1 1, .int .i64 0, .int .i64 0, .int .i64 1, .bool false, .int .i64 1, .int .i64 1]] (.cons (show Ld Try.prog w11 70 ⟨g5, 0, none⟩ (.agg #[.int .i64 1, .int .i64 1]) from Ld.rowN (cs := [.int .i64 1, .int .i64 1]) hp12.get1 (by kernel_rfl)) .nil) (by kernel_rfl) (fun b14 => ?_)
  refine OPS.cons (opStep.buildSlice (E := 5) hp12 [.int .u8 97] (by kernel_rfl) (fun g17 w15 hp16 => ?_))
  have hp20 := hp16.pull0
  refine OPS.cons (opStep.markBytes hp20 (by kernel_rfl) rfl (⟨#[97]⟩ : ByteArray) (by kernel_rfl) (fun w18 hp19 => ?_))
  refine OPS.batch 2 {} [.agg #[.int .i64 1, .int .i64 1]] [6, 10] [.agg #[.int .i64 1, .int .i64 1, .bool true, .string ⟨#[107]⟩, .slice (some ⟨g10, 0, none⟩) 1 1, .int .i64 0, .int .i64 0, .int .i64 1, .bool false, .int .i64 1, .int .i64 1], .agg #[.int .i64 2, .int .i64 1, .bool false, .string ⟨#[107]⟩, .slice (some ⟨g17, 0, none⟩) 1 1, .int .i64 0, .int .i64 2, .int .i64 3, .bool false, .int .i64 1, .int .i64 1]] (.cons (show Ld Try.prog w18 70 ⟨g5, 0, none⟩ (.agg #[.int .i64 1, .int .i64 1]) from Ld.rowN (cs := [.int .i64 1, .int .i64 1]) hp19.get2 (by kernel_rfl)) .nil) (by kernel_rfl) (fun b21 => ?_)
  refine OPS.cons (opStep.buildSlice (E := 73) hp19 [.int .i64 1, .int .i64 1, .bool true, .string ⟨#[107]⟩, .slice (some ⟨g10, 0, none⟩) 1 1, .int .i64 0, .int .i64 0, .int .i64 1, .bool false, .int .i64 1, .int .i64 1, .int .i64 2, .int .i64 1, .bool false, .string ⟨#[107]⟩, .slice (some ⟨g17, 0, none⟩) 1 1, .int .i64 0, .int .i64 2, .int .i64 3, .bool false, .int .i64 1, .int .i64 1] (by kernel_rfl) (fun g24 w22 hp23 => ?_))
  refine OPS.batch 1 {} [] [0] [.slice (some ⟨g24, 0, none⟩) 2 2] .nil (by kernel_rfl) (fun b25 => ?_)
  refine OPS.nil ?_
  refine thn_n ?_
  refine WP.ret ?_
  refine bodyQ.of _ rfl [.slice (some ⟨g24, 0, none⟩) 2 2] ⟨rfl, trivial⟩ ?_
  exact ⟨g24, g10, g17, rfl, ((((hp23.pull1).pull2).pull2).sub (.cons_cons _ (.cons_cons _ (.cons_cons _ (.cons _ (.slnil))))))⟩

theorem one_slr {w : World} {b b1 b2 : Nat} (h : (Res.row b ((oneP b1).cells ++ (oneG b2).cells) 73).holds w) : SlR w (some ⟨b, 0, none⟩) 2 (List.flatMap GCall.cells [oneP b1, oneG b2]) := SlR.row (n := 2) h rfl
theorem one_vb {w : World} {b1 b2 : Nat} (h1 : (Res.bs b1 (⟨#[97]⟩ : ByteArray)).holds w) (h2 : (Res.bs b2 (⟨#[97]⟩ : ByteArray)).holds w) : ∀ y ∈ [oneP b1, oneG b2], VB w y.Value := by
  intro y hy
  rcases List.mem_cons.1 hy with rfl | hy
  · exact (VB.bs1 h1).1
  · rw [List.mem_singleton.1 hy]; exact (VB.bs1 h2).1
theorem one_fit (b1 b2 : Nat) : fitP [oneP b1, oneG b2] := by
  intro i hi
  have : i = 0 ∨ i = 1 := by simp at hi; omega
  rcases this with rfl | rfl <;> simp [fitC, openP, oneP, oneG]
theorem one_d0 (b1 b2 : Nat) : dueP [oneP b1, oneG b2][0]! := .inl ⟨rfl, by simp [oneP]⟩
theorem one_d1 (b1 b2 : Nat) : dueP [oneP b1, oneG b2][1]! := .inr ⟨by simp [oneG], by simp [oneG], .inl rfl⟩
theorem one_chk01 {w : World} {b1 b2 : Nat} (h1 : (Res.bs b1 (⟨#[97]⟩ : ByteArray)).holds w) (h2 : (Res.bs b2 (⟨#[97]⟩ : ByteArray)).holds w) : chkO w [oneP b1, oneG b2] [0, 1] = 0 := by
  refine chkO_0 (one_fit _ _) ⟨fun j hj => ?_, fun i hi _ => ?_⟩ (fun j hj => ?_) (fun j hj => ?_)
  · have : j = 0 ∨ j = 1 := by simp at hj; omega
    rcases this with rfl | rfl
    · exact ⟨by decide, (by show (0 : Int) < 2; decide), .inl (one_d0 _ _), fun i hi => by omega⟩
    · exact ⟨by decide, (by show (1 : Int) < 2; decide), .inl (one_d1 _ _), fun i hi => by obtain rfl : i = 0 := (by omega); show ¬ (0 : Int) = 1; decide⟩
  · have : i = 0 ∨ i = 1 := by simp at hi; omega
    rcases this with rfl | rfl
    · exact ⟨0, by decide, by decide⟩
    · exact ⟨1, by decide, by decide⟩
  · have : j = 0 ∨ j = 1 := by simp at hj; omega
    rcases this with rfl | rfl <;> (simp [begF, atO, oneP, oneG]; try omega)
  · have : j = 0 ∨ j = 1 := by simp at hj; omega
    rcases this with rfl | rfl
    · intro h; exact absurd rfl h
    · intro _
      refine ⟨fun h => ?_, fun _ => ⟨by simp [lastF, atO, oneP], ?_⟩⟩
      · exact absurd h.1 (by simp [atO, oneG])
      · have e1 := (VB.bs1 (c := 1) h1).2
        have e2 := (VB.bs1 (c := 1) h2).2
        show bytesAt w (oneG b2).Value = bytesAt w (oneP b1).Value
        exact e2.trans e1.symm
theorem one_chk10 {w : World} {b1 b2 : Nat} : chkO w [oneP b1, oneG b2] [1, 0] = 81 := chkO_81 (one_fit _ _) fun q => by
  have := q.2.1 1 (by decide)
  simp [begF, atO, oneP, oneG] at this
  omega
theorem one_chk0 {w : World} {b1 b2 : Nat} : chkO w [oneP b1, oneG b2] [0] = 81 := chkO_81 (one_fit _ _) fun q => by
  obtain ⟨j, hj, e⟩ := q.1.2 1 (by simp) (one_d1 _ _)
  obtain rfl : j = 0 := by simp at hj; omega
  exact absurd e (by decide)
theorem one_by {b1 b2 : Nat} {q : List Int} {e : Int} (h : byR [oneP b1, oneG b2] q e) : q = [0, 1] ∧ e = 0 := by
  have ht : tgB [oneP b1, oneG b2] 2 = some ([(0, ⟨1, 1⟩)], [(⟨1, 1⟩, 0)]) := by kernel_rfl
  have hp0 : tkP [oneP b1, oneG b2] [(0, ⟨1, 1⟩)] 0 := of_decide_eq_true (by kernel_rfl)
  have hp1 : ¬ tkP [oneP b1, oneG b2] [(0, ⟨1, 1⟩)] 1 := of_decide_eq_false (by kernel_rfl)
  have hrd : rdM [oneP b1, oneG b2] 2 = [(⟨1, 1⟩, 1)] := by kernel_rfl
  have hix : idxs (tkP [oneP b1, oneG b2] [(0, ⟨1, 1⟩)]) 2 = [0] := by rw [show (2 : Nat) = 0 + 1 + 1 from rfl, idxs_succ, if_neg hp1, idxs_succ, if_pos hp0]; rfl
  rcases h with ⟨h, _⟩ | ⟨_, h, _⟩ | ⟨_, s, hs, p, ok, hk, h⟩
  · exact absurd (one_fit _ _) h
  · rw [show [oneP b1, oneG b2].length = 2 from rfl, ht] at h; cases h
  · rw [show [oneP b1, oneG b2].length = 2 from rfl, ht] at hs
    cases hs
    obtain ⟨p', ⟨hp, _⟩, hk⟩ := hk
    rw [show [oneP b1, oneG b2].length = 2 from rfl, hix] at hp
    obtain rfl : p' = [0] := List.perm_singleton.1 hp
    have hnb : ¬ tkBad [(0, ⟨1, 1⟩)] [0] 0 := by
      rintro (h | h | h)
      · exact h (.inr ⟨by decide +kernel, by decide +kernel, by decide +kernel, by decide +kernel⟩)
      · exact absurd h.1 (by decide +kernel)
      · omega
    rcases hk with ⟨⟨n, hn, hb⟩, _⟩ | ⟨_, rfl, hk⟩
    · obtain rfl : n = 0 := by simp at hn; omega
      exact absurd hb hnb
    · have hok : ok := hk.2 (by rw [show [oneP b1, oneG b2].length = 2 from rfl, hrd]; decide +kernel)
      rcases h with ⟨h, _⟩ | ⟨_, rfl, h⟩
      · exact absurd hok h
      · refine ⟨?_, rfl⟩
        have gx : ∀ (Pw : GCall → Prop) (o : List Int), gtR [oneP b1, oneG b2] Pw o → (Pw (oneG b2) → o = [1]) ∧ (¬ Pw (oneG b2) → o = []) := by
          intro Pw o ho
          have h0 : ¬ gtP [oneP b1, oneG b2] Pw 0 := fun h => h.1 rfl
          have hp2 := ho.1
          rw [show [oneP b1, oneG b2].length = 0 + 1 + 1 from rfl, idxs_succ, idxs_succ, if_neg h0] at hp2
          constructor
          · intro hw
            rw [if_pos (show gtP [oneP b1, oneG b2] Pw (0 + 1) from ⟨by simp [oneG], one_d1 _ _, hw⟩)] at hp2
            exact List.perm_singleton.1 hp2
          · intro hw
            rw [if_neg (fun h : gtP [oneP b1, oneG b2] Pw (0 + 1) => hw h.2.2)] at hp2
            exact List.perm_nil.1 hp2
        rw [show ([0] : List Int).length = 0 + 1 from rfl] at h
        cases h with
        | succ h g =>
          cases h with
          | zero z =>
            rw [(gx _ _ z).2 (show ¬ (0 : Int) = 76 by decide), (gx _ _ g).1 ⟨rfl, by kernel_rfl, by kernel_rfl⟩]
            rfl

theorem l21_awake (w : World) :
    Calls Try.prog 34 #[] w (fun r_ w' => r_ = .returned (.bool true) ∧ Fram Non w w') := by
  refine calls_of Try.func34 rfl 33 rfl (by simp) ?_
  have hp0 := Hp.init w
  have he0 : List.map (env0 []) [] = [] := by kernel_rfl
  obtain ⟨b0, he0⟩ := toMk he0
  rw [he0]
  clear he0
  refine WP.seq ?_
  refine WP.pure {} [] [] [] .nil (by kernel_rfl) (fun b1 => ?_)
  refine thn_n ?_
  refine WP.seq ?_
  refine WP.region _ rfl (by kernel_rfl) ?_
  refine OPS.cons (opStep.call (some 4) [] (by kernel_rfl) (l21_one _) ?_)
  rintro _ w4 ⟨g7, g8, g9, rfl, hp5⟩
  refine ⟨_, rfl, ?_⟩
  have hp6 := hp0.madeQ hp5
  simp only [List.cons_append, List.nil_append] at hp6
  refine OPS.cons (opStep.call (some 5) [.slice (some ⟨g7, 0, none⟩) 2 2] (by kernel_rfl) (o_ByTags [oneP g8, oneG g9] _ _ _ _ rfl (by simp) (one_slr hp6.get0) (by simp)) ?_)
  rintro _ w12 ⟨a14, c15, q16, e17, rfl, hq18, hp13⟩
  obtain ⟨rfl, rfl⟩ := one_by hq18
  refine ⟨_, rfl, ?_⟩
  have hp19 := hp6.made hp13
  have hp20 : Hp w Non [Res.own 3 1 (.slice a14 2 c15) 2 (List.flatMap (fun (y : Int) => [Go.Value.int .i64 y]) ([0, 1] : List Int)), Res.row g7 ((oneP g8).cells ++ (oneG g9).cells) 73, Res.bs g8 (⟨#[97]⟩ : ByteArray), Res.bs g9 (⟨#[97]⟩ : ByteArray)] w12 := hp19
  refine OPS.batch 5 {} [] [1, 2] [.slice a14 2 c15, .int .i64 0] .nil (by kernel_rfl) (fun b21 => ?_)
  refine OPS.nil ?_
  refine thn_n ?_
  refine WP.seq ?_
  refine WP.region _ rfl (by kernel_rfl) ?_
  refine OPS.batch 4 {} [] [1, 10, 11] [.slice a14 2 c15, .bool true, .slice a14 2 c15] .nil (by kernel_rfl) (fun b22 => ?_)
  refine OPS.want (by kernel_rfl) ?_
  refine OPS.cons (opStep.buildSlice (E := 3) hp20 [.int .i64 0, .int .i64 1] (by kernel_rfl) (fun g25 w23 hp24 => ?_))
  refine OPS.want (by kernel_rfl) ?_
  refine OPS.cons (opStep.call (some 13) [.slice a14 2 c15, .slice (some ⟨g25, 0, none⟩) 2 2] (by kernel_rfl) (l21_equal ([0, 1] : List Int) [0, 1] _ _ _ _ _ _ _ rfl rfl (by decide) (SlR.own (hp24.get1)) (show SlR w23 (some ⟨g25, 0, none⟩) 2 (List.flatMap (fun y => [.int .i64 y]) [0, 1]) from SlR.row hp24.get0 rfl)) ?_)
  rintro _ w28 ⟨b31, rfl, hb32, hf29⟩
  obtain rfl : b31 = true := hb32.2 rfl
  refine ⟨_, rfl, ?_⟩
  have hp30 := hp24.step hf29
  refine OPS.batch 2 { wraps := [14] } [] [1, 15] [.slice a14 2 c15, .bool true] .nil (by kernel_rfl) (fun b33 => ?_)
  refine OPS.want (by kernel_rfl) ?_
  refine OPS.cons (opStep.call (some 16) [] (by kernel_rfl) (l21_one _) ?_)
  rintro _ w36 ⟨g39, g40, g41, rfl, hp37⟩
  refine ⟨_, rfl, ?_⟩
  have hp38 := hp30.madeQ hp37
  simp only [List.cons_append, List.nil_append] at hp38
  refine OPS.batch 1 {} [] [15, 16, 17] [.bool true, .slice (some ⟨g39, 0, none⟩) 2 2, .slice a14 2 c15] .nil (by kernel_rfl) (fun b42 => ?_)
  refine OPS.want (by kernel_rfl) ?_
  refine OPS.cons (opStep.call (some 18) [.slice (some ⟨g39, 0, none⟩) 2 2, .slice a14 2 c15] (by kernel_rfl) (o_Check [oneP g40, oneG g41] _ _ _ _ rfl (by simp) (one_slr hp38.get0) ([0, 1] : List Int) _ _ _ rfl (by decide) (SlR.own (hp38.get4)) (one_vb hp38.get1 hp38.get2) (by simp [oneP, oneG])) ?_)
  rintro _ w45 ⟨rfl, hf46⟩
  refine ⟨_, rfl, ?_⟩
  rw [one_chk01 hp38.get1 hp38.get2]
  have hp47 := hp38.step hf46
  refine OPS.batch 3 { wraps := [20] } [] [21] [.bool true] .nil (by kernel_rfl) (fun b48 => ?_)
  refine OPS.want (by kernel_rfl) ?_
  refine OPS.cons (opStep.call (some 22) [] (by kernel_rfl) (l21_one _) ?_)
  rintro _ w51 ⟨g54, g55, g56, rfl, hp52⟩
  refine ⟨_, rfl, ?_⟩
  have hp53 := hp47.madeQ hp52
  simp only [List.cons_append, List.nil_append] at hp53
  refine OPS.want (by kernel_rfl) ?_
  refine OPS.cons (opStep.buildSlice (E := 3) hp53 [.int .i64 1, .int .i64 0] (by kernel_rfl) (fun g59 w57 hp58 => ?_))
  refine OPS.want (by kernel_rfl) ?_
  refine OPS.cons (opStep.call (some 24) [.slice (some ⟨g54, 0, none⟩) 2 2, .slice (some ⟨g59, 0, none⟩) 2 2] (by kernel_rfl) (o_Check [oneP g55, oneG g56] _ _ _ _ rfl (by simp) (one_slr hp58.get1) [1, 0] _ _ _ rfl (by decide) (show SlR w57 (some ⟨g59, 0, none⟩) 2 (List.flatMap (fun y => [.int .i64 y]) [1, 0]) from SlR.row hp58.get0 rfl) (one_vb hp58.get2 hp58.get3) (by simp [oneP, oneG])) ?_)
  rintro _ w62 ⟨rfl, hf63⟩
  refine ⟨_, rfl, ?_⟩
  rw [one_chk10]
  have hp64 := hp58.step hf63
  refine OPS.batch 3 { wraps := [26] } [] [27] [.bool true] .nil (by kernel_rfl) (fun b65 => ?_)
  refine OPS.want (by kernel_rfl) ?_
  refine OPS.cons (opStep.call (some 28) [] (by kernel_rfl) (l21_one _) ?_)
  rintro _ w68 ⟨g71, g72, g73, rfl, hp69⟩
  refine ⟨_, rfl, ?_⟩
  have hp70 := hp64.madeQ hp69
  simp only [List.cons_append, List.nil_append] at hp70
  refine OPS.want (by kernel_rfl) ?_
  refine OPS.cons (opStep.buildSlice (E := 3) hp70 [.int .i64 0] (by kernel_rfl) (fun g76 w74 hp75 => ?_))
  refine OPS.want (by kernel_rfl) ?_
  refine OPS.cons (opStep.call (some 30) [.slice (some ⟨g71, 0, none⟩) 2 2, .slice (some ⟨g76, 0, none⟩) 1 1] (by kernel_rfl) (o_Check [oneP g72, oneG g73] _ _ _ _ rfl (by simp) (one_slr hp75.get1) [0] _ _ _ rfl (by decide) (show SlR w74 (some ⟨g76, 0, none⟩) 1 (List.flatMap (fun y => [.int .i64 y]) [0]) from SlR.row hp75.get0 rfl) (one_vb hp75.get2 hp75.get3) (by simp [oneP, oneG])) ?_)
  rintro _ w79 ⟨rfl, hf80⟩
  refine ⟨_, rfl, ?_⟩
  rw [one_chk0]
  have hp81 := hp75.step hf80
  refine OPS.batch 3 { wraps := [32] } [] [0] [.bool true] .nil (by kernel_rfl) (fun b82 => ?_)
  refine OPS.nil ?_
  refine thn_n ?_
  refine WP.ret ?_
  refine bodyQ.of _ rfl [.bool true] ⟨rfl, trivial⟩ ?_
  exact ⟨rfl, hp81.fr⟩

end Go.Proofs.Ytdahgdkadfdkeaa.K
