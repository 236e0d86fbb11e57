/- The walks of OrdE: what each function computes. -/
import Derived.Test.YtdahgdkadfdkeaaProg
import Derived.Test.YtdahgdkadfdkeaaCoreO
import Derived.Test.YtdahgdkadfdkeaaOrdD
import Derived.Test.YtdahgdkadfdkeaaStbS
import Derived.Test.YtdahgdkadfdkeaaCoreU
namespace Go.Proofs.Ytdahgdkadfdkeaa.K
open Go Go.Proofs Go.RowKit
set_option linter.unusedVariables false
set_option linter.unusedSimpArgs false
set_option maxRecDepth 20000
set_option maxHeartbeats 4000000

theorem g1_less (l : List GCall) (a : Option Addr) (n c : Nat) (w : World) (hn : n = l.length) (hb : l.length ≤ 8796093022207) (hs : SlR w a n (l.flatMap GCall.cells)) (b1 : Nat) (h1 : (Res.row b1 [.slice a n c] 55).holds w) (b2 : Nat) (sa : Option Addr) (sn sc : Nat) (xs : List Int) (h2 : (Res.row b2 [.slice sa sn sc] 24).holds w) (hx : SlR w sa sn (List.flatMap (fun (y : Int) => [Go.Value.int .i64 y]) xs)) (hxl : xs.length = sn) (i j : Nat) (hi : i < sn) (hj : j < sn) (hsn : sn ≤ 8796093022207) (hin : ∀ y ∈ xs, 0 ≤ y ∧ y < (l.length : Int)) :
    Calls Try.prog 112 #[.int .i64 (i : Int), .int .i64 (j : Int), .pointer (some ⟨b1, 0, none⟩), .pointer (some ⟨b2, 0, none⟩)] w (fun r_ w' => ∃ f_, r_ = .returned (.bool f_) ∧ Bp f_ (frLt l xs[i]! xs[j]!) ∧ Fram Non w w') := by
  have hii := hin xs[i]! (List.mem_of_getElem? (get_bang (by omega)))
  have hjj := hin xs[j]! (List.mem_of_getElem? (get_bang (by omega)))
  refine calls_of Try.func112 rfl 24 rfl (by simp) ?_
  have hp0 := Hp.init w
  have he0 : List.map (env0 [.int .i64 (i : Int), .int .i64 (j : Int), .pointer (some ⟨b1, 0, none⟩), .pointer (some ⟨b2, 0, none⟩)]) [0, 1, 2, 3] = [.int .i64 (i : Int), .int .i64 (j : Int), .pointer (some ⟨b1, 0, none⟩), .pointer (some ⟨b2, 0, none⟩)] := by kernel_rfl
  obtain ⟨b0, he0⟩ := toMk he0
  rw [he0]
  clear he0
  refine WP.seq ?_
  refine WP.pure {} [] [0, 1, 2, 3] [.int .i64 (i : Int), .int .i64 (j : Int), .pointer (some ⟨b1, 0, none⟩), .pointer (some ⟨b2, 0, none⟩)] .nil (by kernel_rfl) (fun b1 => ?_)
  refine thn_n ?_
  refine WP.seq ?_
  have hp4 := hp0.drew
  refine WP.quiet (fun w2 => Hp w Non [] w2) (by kernel_rfl) hp4 ?_
  have hnehp4 : ∃ wz_, (fun w2 => Hp w Non [] w2) wz_ := ⟨_, hp4⟩
  have hy8 : (xs)[i]? = some xs[i]! := get_bang (by first | (omega) | (simp only [List.length_append, List.length_cons, List.length_nil]; omega) | (simp only [List.length_take, List.length_append, List.length_cons, List.length_nil]; omega))
  have hy10 : (l)[(xs[i]! : Int).toNat]? = some l[(xs[i]! : Int).toNat]! := get_bang (by first | (omega) | (simp only [List.length_append, List.length_cons, List.length_nil]; omega) | (simp only [List.length_take, List.length_append, List.length_cons, List.length_nil]; omega))
  have hy12 : (xs)[j]? = some xs[j]! := get_bang (by first | (omega) | (simp only [List.length_append, List.length_cons, List.length_nil]; omega) | (simp only [List.length_take, List.length_append, List.length_cons, List.length_nil]; omega))
  have hy14 : (l)[(xs[j]! : Int).toNat]? = some l[(xs[j]! : Int).toNat]! := get_bang (by first | (omega) | (simp only [List.length_append, List.length_cons, List.length_nil]; omega) | (simp only [List.length_take, List.length_append, List.length_cons, List.length_nil]; omega))
  refine QOPS.batch 18 {} [.slice a n c, .slice sa sn sc, .int .i64 (xs[i]!), .int .i64 (l[(xs[i]! : Int).toNat]!.From), .slice a n c, .slice sa sn sc, .int .i64 (xs[j]!), .int .i64 (l[(xs[j]! : Int).toNat]!.From)] [6] [.bool (decide ((l[(xs[i]! : Int).toNat]!.From) < (l[(xs[j]! : Int).toNat]!.From)))] hnehp4 (fun w5 hp6 => QB.mk (.cons (Ld.row1 (P := Try.prog) (t := 55) (o := 0) (v := .slice a n c) (row_at h1 hp6.fr) (by kernel_rfl)) (.cons (Ld.row1 (P := Try.prog) (t := 24) (o := 0) (v := .slice sa sn sc) (row_at h2 hp6.fr) (by kernel_rfl)) (.cons (show InB ((i : Int)) (sn) from ⟨by omega, by omega⟩) (.cons ((hx.at hp6).some (by omega)) (.cons (Ld.add0 (Ld.el1 (P := Try.prog) (t := 3) (hx.at hp6).rd 1 (fun _ => rfl) hy8 (o := 0) (v := .int .i64 (xs[i]!)) (by kernel_rfl))) (.cons (show InB (xs[i]!) (n) from ⟨by omega, by omega⟩) (.cons ((hs.at hp6).some (by omega)) (.cons (Ld.el1 (P := Try.prog) (t := 3) (hs.at hp6).rd 11 (fun _ => rfl) hy10 (o := 6) (v := .int .i64 (l[(xs[i]! : Int).toNat]!.From)) (by kernel_rfl)) (.cons (Ld.row1 (P := Try.prog) (t := 55) (o := 0) (v := .slice a n c) (row_at h1 hp6.fr) (by kernel_rfl)) (.cons (Ld.row1 (P := Try.prog) (t := 24) (o := 0) (v := .slice sa sn sc) (row_at h2 hp6.fr) (by kernel_rfl)) (.cons (show InB ((j : Int)) (sn) from ⟨by omega, by omega⟩) (.cons ((hx.at hp6).some (by omega)) (.cons (Ld.add0 (Ld.el1 (P := Try.prog) (t := 3) (hx.at hp6).rd 1 (fun _ => rfl) hy12 (o := 0) (v := .int .i64 (xs[j]!)) (by kernel_rfl))) (.cons (show InB (xs[j]!) (n) from ⟨by omega, by omega⟩) (.cons ((hs.at hp6).some (by omega)) (.cons (Ld.el1 (P := Try.prog) (t := 3) (hs.at hp6).rd 11 (fun _ => rfl) hy14 (o := 6) (v := .int .i64 (l[(xs[j]! : Int).toNat]!.From)) (by kernel_rfl)) .nil)))))))))))))))) (by kernel_rfl)) (fun b15 => ?_)
  refine QOPS.nil (fun w16 hp17 => ?_)
  refine thn_n ?_
  refine WP.ret ?_
  refine bodyQ.of _ rfl [.bool (decide ((l[(xs[i]! : Int).toNat]!.From) < (l[(xs[j]! : Int).toNat]!.From)))] ⟨rfl, trivial⟩ ?_
  exact ⟨_, rfl, Bp.of Bp.dec (by unfold frLt; rfl), hp17.fr⟩

theorem g1_ok {w0 : World} {l : List GCall} {a : Option Addr} {n c b1 b2 : Nat} {L : List Res} {sa : Option Addr} {sn sc : Nat} {l0 : List Int} (hs : SlR w0 a n (l.flatMap GCall.cells)) (hn : n = l.length) (hb : l.length ≤ 8796093022207) (m1 : Res.row b1 [.slice a n c] 55 ∈ L) (m2 : Res.row b2 [.slice sa sn sc] 24 ∈ L) (hin : ∀ y ∈ l0, 0 ≤ y ∧ y < (l.length : Int)) (hl0 : l0.length = sn ∧ sn ≤ 8796093022207) :
    LessOk w0 L 112 (.pointer (some ⟨b1, 0, none⟩)) (.pointer (some ⟨b2, 0, none⟩)) sa sn sc l0 (frLt l) := ⟨enter_of Try.func112 rfl (by kernel_rfl), fun q X w i j hq hi hj hp => by
  have e1 := hp.holds _ (List.mem_cons_of_mem _ (List.mem_append_right X m1))
  have e2 := hp.holds _ (List.mem_cons_of_mem _ (List.mem_append_right X m2))
  refine (g1_less l a n c w hn hb (hs.at hp) b1 e1 b2 sa sn sc q e2 (SlR.own hp.get0) (hq.length_eq.trans hl0.1) i j hi hj hl0.2 fun y hy => hin y (hq.subset hy)).mono ?_
  rintro _ w' ⟨f, rfl, hbp, hf⟩
  exact ⟨f, rfl, hbp, hp.step hf⟩⟩
theorem t1_less (m : TgM) (mb b1 : Nat) (w : World) (hm : (Res.mp mb kI vT m).holds w) (h1 : (Res.row b1 [.map (some mb)] 117).holds w) (b2 : Nat) (sa : Option Addr) (sn sc : Nat) (xs : List Int) (h2 : (Res.row b2 [.slice sa sn sc] 24).holds w) (hx : SlR w sa sn (List.flatMap (fun (y : Int) => [Go.Value.int .i64 y]) xs)) (hxl : xs.length = sn) (i j : Nat) (hi : i < sn) (hj : j < sn) (hsn : sn ≤ 8796093022207) :
    Calls Try.prog 110 #[.int .i64 (i : Int), .int .i64 (j : Int), .pointer (some ⟨b1, 0, none⟩), .pointer (some ⟨b2, 0, none⟩)] w (fun r_ w' => ∃ f_, r_ = .returned (.bool f_) ∧ Bp f_ (tgLt m xs[i]! xs[j]!) ∧ Fram Non w w') := by
  refine calls_of Try.func110 rfl 21 rfl (by simp) ?_
  have hp0 := Hp.init w
  have he0 : List.map (env0 [.int .i64 (i : Int), .int .i64 (j : Int), .pointer (some ⟨b1, 0, none⟩), .pointer (some ⟨b2, 0, none⟩)]) [0, 1, 2, 3] = [.int .i64 (i : Int), .int .i64 (j : Int), .pointer (some ⟨b1, 0, none⟩), .pointer (some ⟨b2, 0, none⟩)] := by kernel_rfl
  obtain ⟨b0, he0⟩ := toMk he0
  rw [he0]
  clear he0
  refine WP.seq ?_
  refine WP.pure {} [] [0, 1, 2, 3] [.int .i64 (i : Int), .int .i64 (j : Int), .pointer (some ⟨b1, 0, none⟩), .pointer (some ⟨b2, 0, none⟩)] .nil (by kernel_rfl) (fun b1 => ?_)
  refine thn_n ?_
  refine WP.seq ?_
  have hp4 := hp0.drew
  refine WP.quiet (fun w2 => Hp w Non [] w2) (by kernel_rfl) hp4 ?_
  have hnehp4 : ∃ wz_, (fun w2 => Hp w Non [] w2) wz_ := ⟨_, hp4⟩
  have hy8 : (xs)[i]? = some xs[i]! := get_bang (by first | (omega) | (simp only [List.length_append, List.length_cons, List.length_nil]; omega) | (simp only [List.length_take, List.length_append, List.length_cons, List.length_nil]; omega))
  have hy10 : (xs)[j]? = some xs[j]! := get_bang (by first | (omega) | (simp only [List.length_append, List.length_cons, List.length_nil]; omega) | (simp only [List.length_take, List.length_append, List.length_cons, List.length_nil]; omega))
  refine QOPS.batch 12 {} [.map (some mb), .slice sa sn sc, .int .i64 (xs[i]!), GTag.val ((mapV m (xs[i]!)).getD tag0), .map (some mb), .slice sa sn sc, .int .i64 (xs[j]!), GTag.val ((mapV m (xs[j]!)).getD tag0)] [12, 18] [GTag.val ((mapV m (xs[i]!)).getD tag0), GTag.val ((mapV m (xs[j]!)).getD tag0)] hnehp4 (fun w5 hp6 => QB.mk (.cons (Ld.row1 (P := Try.prog) (t := 117) (o := 0) (v := .map (some mb)) (row_at h1 hp6.fr) (by kernel_rfl)) (.cons (Ld.row1 (P := Try.prog) (t := 24) (o := 0) (v := .slice sa sn sc) (row_at h2 hp6.fr) (by kernel_rfl)) (.cons (show InB ((i : Int)) (sn) from ⟨by omega, by omega⟩) (.cons ((hx.at hp6).some (by omega)) (.cons (Ld.add0 (Ld.el1 (P := Try.prog) (t := 3) (hx.at hp6).rd 1 (fun _ => rfl) hy8 (o := 0) (v := .int .i64 (xs[i]!)) (by kernel_rfl))) (.cons (Lk.noD (vf := vT) (keyInt (by exact Try.underlying3)) (by exact Try.underlying117) (mp_at hm hp6.fr) (xs[i]!) tag0 (by kernel_rfl)) (.cons (Ld.row1 (P := Try.prog) (t := 117) (o := 0) (v := .map (some mb)) (row_at h1 hp6.fr) (by kernel_rfl)) (.cons (Ld.row1 (P := Try.prog) (t := 24) (o := 0) (v := .slice sa sn sc) (row_at h2 hp6.fr) (by kernel_rfl)) (.cons (show InB ((j : Int)) (sn) from ⟨by omega, by omega⟩) (.cons ((hx.at hp6).some (by omega)) (.cons (Ld.add0 (Ld.el1 (P := Try.prog) (t := 3) (hx.at hp6).rd 1 (fun _ => rfl) hy10 (o := 0) (v := .int .i64 (xs[j]!)) (by kernel_rfl))) (.cons (Lk.noD (vf := vT) (keyInt (by exact Try.underlying3)) (by exact Try.underlying117) (mp_at hm hp6.fr) (xs[j]!) tag0 (by kernel_rfl)) .nil)))))))))))) (by kernel_rfl)) (fun b11 => ?_)
  refine QOPS.call (some 19) [GTag.val ((mapV m (xs[i]!)).getD tag0), GTag.val ((mapV m (xs[j]!)).getD tag0)] (by kernel_rfl) (fun w12 hp13 => (tag_Compare ((mapV m (xs[i]!)).getD tag0) ((mapV m (xs[j]!)).getD tag0) _).mono fun _ _ h => ⟨h.1, hp13.step h.2⟩) ?_
  refine QOPS.batch 2 {} [] [6] [.bool (decide ((tagCmp ((mapV m (xs[i]!)).getD tag0) ((mapV m (xs[j]!)).getD tag0)) < 0))] hnehp4 (fun w14 hp15 => QB.mk .nil (by kernel_rfl)) (fun b16 => ?_)
  refine QOPS.nil (fun w17 hp18 => ?_)
  refine thn_n ?_
  refine WP.ret ?_
  refine bodyQ.of _ rfl [.bool (decide ((tagCmp ((mapV m (xs[i]!)).getD tag0) ((mapV m (xs[j]!)).getD tag0)) < 0))] ⟨rfl, trivial⟩ ?_
  exact ⟨_, rfl, Bp.of Bp.dec (by unfold tgLt; rfl), hp18.fr⟩

theorem t1_ok {w0 : World} {m : TgM} {mb b1 b2 : Nat} {L : List Res} {sa : Option Addr} {sn sc : Nat} {l0 : List Int} (hm : (Res.mp mb kI vT m).holds w0) (m1 : Res.row b1 [.map (some mb)] 117 ∈ L) (m2 : Res.row b2 [.slice sa sn sc] 24 ∈ L) (hl0 : l0.length = sn ∧ sn ≤ 8796093022207) :
    LessOk w0 L 110 (.pointer (some ⟨b1, 0, none⟩)) (.pointer (some ⟨b2, 0, none⟩)) sa sn sc l0 (tgLt m) := ⟨enter_of Try.func110 rfl (by kernel_rfl), fun q X w i j hq hi hj hp => by
  have e1 := hp.holds _ (List.mem_cons_of_mem _ (List.mem_append_right X m1))
  have e2 := hp.holds _ (List.mem_cons_of_mem _ (List.mem_append_right X m2))
  refine (t1_less m mb b1 w (mp_at hm hp.fr) e1 b2 sa sn sc q e2 (SlR.own hp.get0) (hq.length_eq.trans hl0.1) i j hi hj hl0.2).mono ?_
  rintro _ w' ⟨f, rfl, hbp, hf⟩
  exact ⟨f, rfl, hbp, hp.step hf⟩⟩
def WhichOk (w : World) (h : FuncId) (cap : Array Go.Value) (l : List GCall) (Pw : GCall → Prop) : Prop := (∀ args w, (callFunc h args).run Try.prog w = .ok (.enter h args) w) ∧
  ∀ w', Fram Non w w' → ∀ y ∈ l, Calls Try.prog h ([GCall.val y] ++ cap.toList).toArray w' fun x w'' => ∃ f, x = .returned (.bool f) ∧ Bp f (Pw y) ∧ Fram Non w' w''
theorem by_abs (y : GCall) (w : World) :
    Calls Try.prog 85 #[GCall.val y] w (fun r_ w' => ∃ f_, r_ = .returned (.bool f_) ∧ Bp f_ (absW y) ∧ Fram Non w w') := by
  refine calls_of Try.func85 rfl 6 rfl (by simp) ?_
  have hp0 := Hp.init w
  have he0 : List.map (env0 [GCall.val y]) [0] = [GCall.val y] := by kernel_rfl
  obtain ⟨b0, he0⟩ := toMk he0
  rw [he0]
  clear he0
  refine WP.seq ?_
  refine WP.region _ rfl (by kernel_rfl) ?_
  refine OPS.cons (opStep.box hp0 [.int .i64 y.Client, .int .i64 y.Op, .bool y.Put, .string y.Key, .slice y.Value.a y.Value.n y.Value.c, .int .i64 y.Status, .int .i64 y.From, .int .i64 y.To, .bool y.Open, .int .i64 y.Tag.Count, .int .i64 y.Tag.Client] (by kernel_rfl) (fun g3 w1 hp2 => ?_))
  refine OPS.batch 1 {} [] [1] [.pointer (some ⟨g3, 0, none⟩)] .nil (by kernel_rfl) (fun b4 => ?_)
  refine OPS.nil ?_
  refine thn_n ?_
  refine WP.seq ?_
  refine WP.pure {} [.int .i64 y.Status] [2] [.bool (decide (y.Status = 76))] (.cons (Ld.row1 (P := Try.prog) (t := 25) (o := 5) (v := .int .i64 y.Status) hp2.get0 (by kernel_rfl)) .nil) (by kernel_rfl) (fun b5 => ?_)
  refine thn_n ?_
  refine WP.ret ?_
  refine bodyQ.of _ rfl [.bool (decide (y.Status = 76))] ⟨rfl, trivial⟩ ?_
  exact ⟨_, rfl, Bp.of Bp.dec (by unfold absW; rfl), hp2.fr⟩

theorem by_abs_ok (w : World) (l : List GCall) : WhichOk w 85 #[] l absW := ⟨enter_of Try.func85 rfl (by kernel_rfl), fun w' _ y _ => by_abs y w'⟩
theorem by_tag (y : GCall) (m : TgM) (mb b1 b2 : Nat) (x : Int) (w : World) (hm : (Res.mp mb kI vT m).holds w) (h1 : (Res.row b1 [.map (some mb)] 117).holds w) (h2 : (Res.row b2 [.int .i64 x] 3).holds w) :
    Calls Try.prog 86 #[GCall.val y, .pointer (some ⟨b1, 0, none⟩), .pointer (some ⟨b2, 0, none⟩)] w (fun r_ w' => ∃ f_, r_ = .returned (.bool f_) ∧ Bp f_ (tagW ((mapV m x).getD tag0) y) ∧ Fram Non w w') := by
  refine calls_of Try.func86 rfl 16 rfl (by simp) ?_
  have hp0 := Hp.init w
  have he0 : List.map (env0 [GCall.val y, .pointer (some ⟨b1, 0, none⟩), .pointer (some ⟨b2, 0, none⟩)]) [0, 1, 2] = [GCall.val y, .pointer (some ⟨b1, 0, none⟩), .pointer (some ⟨b2, 0, none⟩)] := by kernel_rfl
  obtain ⟨b0, he0⟩ := toMk he0
  rw [he0]
  clear he0
  refine WP.seq ?_
  refine WP.region _ rfl (by kernel_rfl) ?_
  refine OPS.cons (opStep.box hp0 [.int .i64 y.Client, .int .i64 y.Op, .bool y.Put, .string y.Key, .slice y.Value.a y.Value.n y.Value.c, .int .i64 y.Status, .int .i64 y.From, .int .i64 y.To, .bool y.Open, .int .i64 y.Tag.Count, .int .i64 y.Tag.Client] (by kernel_rfl) (fun g3 w1 hp2 => ?_))
  refine OPS.batch 1 {} [] [1, 2, 3] [.pointer (some ⟨b1, 0, none⟩), .pointer (some ⟨b2, 0, none⟩), .pointer (some ⟨g3, 0, none⟩)] .nil (by kernel_rfl) (fun b4 => ?_)
  refine OPS.nil ?_
  refine thn_n ?_
  refine WP.cut (fun e14 w15 => ∃ (x12 : Bool), (True) ∧ Bp x12 ((y.Status = 0) ∧ ((y.Tag.Count = (((mapV m x).getD tag0).Count)) ∧ (y.Tag.Client = (((mapV m x).getD tag0).Client)))) ∧ List.map e14 [4] = [.bool x12] ∧ Hp w Non [Res.row g3 [.int .i64 y.Client, .int .i64 y.Op, .bool y.Put, .string y.Key, .slice y.Value.a y.Value.n y.Value.c, .int .i64 y.Status, .int .i64 y.From, .int .i64 y.To, .bool y.Open, .int .i64 y.Tag.Count, .int .i64 y.Tag.Client] 73] w15) ?_ ?_
  · refine WP.region _ rfl (by kernel_rfl) ?_
    refine OPS.batch 4 {} [.int .i64 y.Status] [1, 2, 3, 8] [.pointer (some ⟨b1, 0, none⟩), .pointer (some ⟨b2, 0, none⟩), .pointer (some ⟨g3, 0, none⟩), .bool (decide (y.Status = 0))] (.cons (Ld.row1 (P := Try.prog) (t := 25) (o := 5) (v := .int .i64 y.Status) hp2.get0 (by kernel_rfl)) .nil) (by kernel_rfl) (fun b6 => ?_)
    by_cases h7 : y.Status = 0
    · refine OPS.batch 0 {} [] [1, 2, 3, 8] [.pointer (some ⟨b1, 0, none⟩), .pointer (some ⟨b2, 0, none⟩), .pointer (some ⟨g3, 0, none⟩), .bool (decide (y.Status = 0))] .nil (by kernel_rfl) (fun b8 => ?_)
      refine OPS.re [.pointer (some ⟨b1, 0, none⟩), .pointer (some ⟨b2, 0, none⟩), .pointer (some ⟨g3, 0, none⟩), .bool true] (by rw [show (decide (y.Status = 0)) = true from Bp.dec.tt h7]) ?_
      refine OPS.batch 8 { wraps := [15] } [.agg #[.int .i64 y.Tag.Count, .int .i64 y.Tag.Client], .map (some mb), .int .i64 x, GTag.val ((mapV m x).getD tag0)] [4] [.bool ((decide (y.Tag.Count = (((mapV m x).getD tag0).Count))) && ((decide (y.Tag.Client = (((mapV m x).getD tag0).Client))) && true))] (.cons (show Ld Try.prog w1 70 ⟨g3, 9, none⟩ (.agg #[.int .i64 y.Tag.Count, .int .i64 y.Tag.Client]) from Ld.rowN (cs := [.int .i64 y.Tag.Count, .int .i64 y.Tag.Client]) hp2.get0 (by kernel_rfl)) (.cons (Ld.row1 (P := Try.prog) (t := 117) (o := 0) (v := .map (some mb)) (row_at h1 hp2.fr) (by kernel_rfl)) (.cons (Ld.row1 (P := Try.prog) (t := 3) (o := 0) (v := .int .i64 x) (row_at h2 hp2.fr) (by kernel_rfl)) (.cons (Lk.noD (vf := vT) (keyInt (by exact Try.underlying3)) (by exact Try.underlying117) (mp_at hm hp2.fr) x tag0 (by kernel_rfl)) .nil)))) (by kernel_rfl) (fun b9 => ?_)
      refine OPS.nil ?_
      refine thn_n ?_
      exact ⟨(decide (y.Tag.Count = (((mapV m x).getD tag0).Count))) && ((decide (y.Tag.Client = (((mapV m x).getD tag0).Client))) && true), trivial, Bp.of (Bp.band Bp.dec (Bp.band1 Bp.dec)) (by first | (simp only [h7, iff_false, false_iff, iff_true, true_iff, Classical.not_not, and_true, true_and, and_false, false_and, or_true, true_or, or_false, false_or, not_true_eq_false, not_false_eq_true, and_self, or_self, iff_self]; done) | (simp [h7]; done) | grind | (simp_all; done)), by kernel_rfl, hp2⟩
    · refine OPS.batch 0 {} [] [1, 2, 3, 8] [.pointer (some ⟨b1, 0, none⟩), .pointer (some ⟨b2, 0, none⟩), .pointer (some ⟨g3, 0, none⟩), .bool (decide (y.Status = 0))] .nil (by kernel_rfl) (fun b10 => ?_)
      refine OPS.re [.pointer (some ⟨b1, 0, none⟩), .pointer (some ⟨b2, 0, none⟩), .pointer (some ⟨g3, 0, none⟩), .bool false] (by rw [show (decide (y.Status = 0)) = false from Bp.dec.ff h7]) ?_
      refine OPS.batch 8 { wraps := [15] } [] [4] [.bool false] .nil (by kernel_rfl) (fun b11 => ?_)
      refine OPS.nil ?_
      refine thn_n ?_
      exact ⟨false, trivial, Bp.of Bp.f (by first | (simp only [h7, iff_false, false_iff, iff_true, true_iff, Classical.not_not, and_true, true_and, and_false, false_and, or_true, true_or, or_false, false_or, not_true_eq_false, not_false_eq_true, and_self, or_self, iff_self]; done) | (simp [h7]; done) | grind | (simp_all; done)), by kernel_rfl, hp2⟩
  rintro e14 w15 ⟨x12, hd17, hb13, hE18, hp16⟩
  obtain ⟨b19, rfl⟩ := toMk hE18
  clear hE18
  clear hd17
  refine WP.ret ?_
  refine bodyQ.of _ rfl [.bool x12] ⟨rfl, trivial⟩ ?_
  exact ⟨_, rfl, Bp.of hb13 (by unfold tagW; first | rfl | grind), hp16.fr⟩

theorem by_tag_ok {w : World} {l : List GCall} {m : TgM} {mb b1 b2 : Nat} {x : Int} (hm : (Res.mp mb kI vT m).holds w) (h1 : (Res.row b1 [.map (some mb)] 117).holds w) (h2 : (Res.row b2 [.int .i64 x] 3).holds w) : WhichOk w 86 #[.pointer (some ⟨b1, 0, none⟩), .pointer (some ⟨b2, 0, none⟩)] l (tagW ((mapV m x).getD tag0)) := ⟨enter_of Try.func86 rfl (by kernel_rfl), fun w' hf y _ => by_tag y m mb b1 b2 x w' (mp_at hm hf) (row_at h1 hf) (row_at h2 hf)⟩
end Go.Proofs.Ytdahgdkadfdkeaa.K
