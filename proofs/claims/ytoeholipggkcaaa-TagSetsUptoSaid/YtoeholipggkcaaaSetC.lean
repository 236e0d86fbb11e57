/- The walks of SetC: what each function computes. -/
import Derived.Test.YtoeholipggkcaaaProg
import Derived.Test.YtoeholipggkcaaaCoreO
import Derived.Test.YtoeholipggkcaaaSetB
namespace Go.Proofs.Ytoeholipggkcaaa.K
open Go Go.Proofs Go.RowKit
set_option linter.unusedVariables false
set_option linter.unusedSimpArgs false
set_option maxRecDepth 20000
set_option maxHeartbeats 4000000

def Srt (xs : List GTag) : Prop := ∀ i j, i < j → j < xs.length → tagCmp xs[i]! xs[j]! < 0
theorem cmpL {a b : GTag} : tagCmp a b < 0 ↔ a.Count < b.Count ∨ (a.Count = b.Count ∧ a.Client < b.Client) := by have := tagCmp_cases a b; omega
theorem fnd_low {xs : List GTag} {t : GTag} {k : Nat} {b : Bool} (hs : Srt xs) (h : fndR xs t k b) : (∀ i, i < k → tagCmp xs[i]! t < 0) ∧ ∀ i, k ≤ i → i < xs.length → ¬ tagCmp xs[i]! t < 0 := by
  obtain ⟨h1, h2, h3, _⟩ := h
  refine ⟨fun i hi => ?_, fun i hi hl q => ?_⟩
  · have h4 := h2 (by omega)
    by_cases e : i = k - 1
    · rw [e]; exact h4
    · have h5 := hs i (k - 1) (by omega) (by omega)
      rw [cmpL] at *; omega
  · have h4 := h3 (by omega)
    by_cases e : i = k
    · rw [e] at q; exact h4 q
    · have h5 := hs k i (by omega) hl
      rw [cmpL] at *; omega
theorem fnd_has {xs : List GTag} {t : GTag} {k : Nat} {b : Bool} (hs : Srt xs) (h : fndR xs t k b) : b = true ↔ t ∈ xs := by
  have hlow := fnd_low hs h
  rw [h.2.2.2]
  constructor
  · rintro ⟨a, e⟩; rw [← e]; exact List.mem_of_getElem? (by rw [List.getElem?_eq_getElem a, getElem!_pos xs k a])
  · intro hm
    obtain ⟨i, hi⟩ := List.getElem?_of_mem hm
    have hil := (List.getElem?_eq_some_iff.1 hi).1
    have e : xs[i]! = t := by rw [getElem!_pos xs i hil]; rw [List.getElem?_eq_getElem hil] at hi; exact Option.some.inj hi
    have n1 : ¬ i < k := fun q => by have := hlow.1 i q; rw [e, cmpL] at this; omega
    have n2 : ¬ k < i := fun q => by
      have h5 := hs k i q hil
      have h6 := hlow.2 k (Nat.le_refl _) (by omega)
      rw [e] at h5; exact h6 h5
    have : i = k := by omega
    subst this
    exact ⟨hil, e⟩
theorem t_CloneS (xs : List GTag) (ad : Addr) (n c : Nat) (w : World) (hn : n = xs.length) (hb : xs.length ≤ 4194304) (hx : SlR w (some ad) n (xs.flatMap GTag.cells)) :
    Calls Try.prog 21 #[.slice (some ad) n c] w (fun r_ w' => ∃ ao co, r_ = .returned (.slice ao n co) ∧ Hp w Non [Res.own 29 2 (.slice ao n co) n (List.flatMap GTag.cells xs)] w') := by
  refine calls_of Try.func21 rfl 8 rfl (by simp) ?_
  have hp0 := Hp.init w
  have he0 : List.map (env0 [.slice (some ad) n c]) [0] = [.slice (some ad) n c] := by kernel_rfl
  obtain ⟨b0, he0⟩ := toMk he0
  rw [he0]
  clear he0
  refine WP.seq ?_
  refine WP.pure {} [] [0] [.slice (some ad) n c] .nil (by kernel_rfl) (fun b1 => ?_)
  refine thn_n ?_
  refine WP.seq ?_
  refine WP.seq ?_
  refine WP.pure {} [] [0, 4] [.slice (some ad) n c, .bool false] .nil (by kernel_rfl) (fun b2 => ?_)
  refine thn_n ?_
  refine WP.condF rfl ?_
  refine WP.skip ?_
  refine thn_n ?_
  refine WP.seq ?_
  refine WP.region _ rfl (by kernel_rfl) ?_
  refine OPS.cons (opStep.buildSlice0 (E := 29) hp0 (by kernel_rfl) (fun g5 w3 hp4 => ?_))
  refine OPS.batch 1 {} [] [5, 6] [.slice (some ⟨g5, 0, none⟩) 0 0, .slice (some ad) n c] .nil (by kernel_rfl) (fun b6 => ?_)
  have hp9 := hp4.pull0
  have hp10 := (show Hp w Non [Res.own 29 2 (.slice (some ⟨g5, 0, none⟩) 0 0) 0 (List.flatMap GTag.cells [])] w3 from hp9.rowOwn 2)
  refine OPS.cons (opStep.appendS (A := []) hp10 16 (by kernel_rfl) rfl rfl (hx.at hp10) (flat_n (fun _ => rfl) (by first | rfl | omega)) (one_flat (fun _ => rfl)) (by decide) (by omega) (by omega) (fun a11 c12 w13 hp14 => ?_))
  rw [show List.flatMap GTag.cells [] ++ List.flatMap GTag.cells xs = List.flatMap GTag.cells (xs) from rfl] at hp14
  simp only [List.cons_append, List.nil_append] at hp14
  refine OPS.batch 1 {} [] [2] [.slice a11 (0 + n) c12] .nil (by kernel_rfl) (fun b15 => ?_)
  refine OPS.nil ?_
  refine thn_n ?_
  refine WP.ret ?_
  refine bodyQ.of _ rfl [.slice a11 (0 + n) c12] ⟨rfl, trivial⟩ ?_
  have e_ : 0 + n = n := Nat.zero_add _
  have h_ := hp14
  rw [e_] at h_
  refine ⟨_, _, ?_, h_⟩
  rw [e_]; rfl

theorem t_CloneN (c : Nat) (w : World) :
    Calls Try.prog 21 #[.slice none 0 c] w (fun r_ w' => r_ = .returned (.slice none 0 0) ∧ Fram Non w w') := by
  refine calls_of Try.func21 rfl 8 rfl (by simp) ?_
  have hp0 := Hp.init w
  have he0 : List.map (env0 [.slice none 0 c]) [0] = [.slice none 0 c] := by kernel_rfl
  obtain ⟨b0, he0⟩ := toMk he0
  rw [he0]
  clear he0
  refine WP.seq ?_
  refine WP.pure {} [] [0] [.slice none 0 c] .nil (by kernel_rfl) (fun b1 => ?_)
  refine thn_n ?_
  refine WP.seq ?_
  refine WP.seq ?_
  refine WP.pure {} [] [0, 4] [.slice none 0 c, .bool true] .nil (by kernel_rfl) (fun b2 => ?_)
  refine thn_n ?_
  refine WP.condT rfl ?_
  refine WP.seq ?_
  refine WP.pure {} [] [2] [.slice none 0 0] .nil (by kernel_rfl) (fun b3 => ?_)
  refine thn_n ?_
  refine WP.ret ?_
  refine thn_r ?_
  refine bodyQ.of _ rfl [.slice none 0 0] ⟨rfl, trivial⟩ ?_
  exact ⟨rfl, hp0.fr⟩

theorem t_Clone (xs : List GTag) (a : Option Addr) (n c : Nat) (w : World) (hn : n = xs.length) (hb : xs.length ≤ 4194304) (hx : SlR w a n (xs.flatMap GTag.cells)) : Calls Try.prog 21 #[.slice a n c] w (fun r_ w' => ∃ ao co, r_ = .returned (.slice ao n co) ∧ Hp w Non [Res.own 29 2 (.slice ao n co) n (List.flatMap GTag.cells xs)] w') := by
  cases a with
  | some ad => exact t_CloneS xs ad n c w hn hb hx
  | none =>
    have hn0 : n = 0 := by
      rcases Nat.eq_zero_or_pos n with z | z
      · exact z
      · have h1 := hx.some z
        cases h1
    subst hn0
    obtain rfl : xs = [] := List.eq_nil_of_length_eq_zero hn.symm
    refine (t_CloneN c w).mono ?_
    rintro _ w' ⟨rfl, hf⟩
    exact ⟨none, 0, rfl, ((Hp.init w).step hf).nilOwn 29 2⟩
theorem set_Has (xs : List GTag) (a : Option Addr) (n c sb : Nat) (t : GTag) (w : World) (hn : n = xs.length) (hb : xs.length ≤ 4194304) (hx : SlR w a n (xs.flatMap GTag.cells)) (hs : (Res.row sb [.slice a n c] 52).holds w) (hsr : Srt xs) :
    Calls Try.prog 5 #[.pointer (some ⟨sb, 0, none⟩), GTag.val t] w (fun r_ w' => ∃ f_, r_ = .returned (.bool f_) ∧ Bp f_ (t ∈ xs) ∧ Fram Non w w') := by
  refine calls_of Try.func5 rfl 16 rfl (by simp) ?_
  have hp0 := Hp.init w
  have he0 : List.map (env0 [.pointer (some ⟨sb, 0, none⟩), GTag.val t]) [0, 1] = [.pointer (some ⟨sb, 0, none⟩), GTag.val t] := by kernel_rfl
  obtain ⟨b0, he0⟩ := toMk he0
  rw [he0]
  clear he0
  refine WP.seq ?_
  refine WP.region _ rfl (by kernel_rfl) ?_
  refine OPS.cons (opStep.box hp0 [.int .i64 t.Count, .int .i64 t.Client] (by kernel_rfl) (fun g3 w1 hp2 => ?_))
  refine OPS.batch 1 {} [] [0, 3] [.pointer (some ⟨sb, 0, none⟩), .pointer (some ⟨g3, 0, none⟩)] .nil (by kernel_rfl) (fun b4 => ?_)
  refine OPS.nil ?_
  refine thn_n ?_
  refine WP.seq ?_
  refine WP.seq ?_
  refine WP.pure {} [] [0, 3, 8] [.pointer (some ⟨sb, 0, none⟩), .pointer (some ⟨g3, 0, none⟩), .bool false] .nil (by kernel_rfl) (fun b5 => ?_)
  refine thn_n ?_
  refine WP.condF rfl ?_
  refine WP.skip ?_
  refine thn_n ?_
  refine WP.seq ?_
  refine WP.region _ rfl (by kernel_rfl) ?_
  refine OPS.batch 2 {} [GTag.val t] [10, 11] [.pointer (some ⟨sb, 0, none⟩), GTag.val t] (.cons (show Ld Try.prog w1 29 ⟨g3, 0, none⟩ (GTag.val t) from Ld.rowN (cs := [.int .i64 t.Count, .int .i64 t.Client]) hp2.get0 (by kernel_rfl)) .nil) (by kernel_rfl) (fun b6 => ?_)
  refine OPS.cons (opStep.call (some 12) [.pointer (some ⟨sb, 0, none⟩), GTag.val t, .func (.func 18) #[] #[]] (by kernel_rfl) (tag_find xs a n c sb t _ hn hb (hx.fram hp2.fr) (row_at hs hp2.fr)) ?_)
  rintro _ w9 ⟨at10, b11, rfl, hq12, hf13⟩
  have hq12l := hq12.1
  refine ⟨_, rfl, ?_⟩
  have hp14 := hp2.step hf13
  refine OPS.batch 5 {} [] [6] [.bool b11] .nil (by kernel_rfl) (fun b15 => ?_)
  refine OPS.nil ?_
  refine thn_n ?_
  refine WP.seq ?_
  refine WP.pure {} [] [4] [.bool b11] .nil (by kernel_rfl) (fun b16 => ?_)
  refine thn_n ?_
  refine WP.ret ?_
  refine bodyQ.of _ rfl [.bool b11] ⟨rfl, trivial⟩ ?_
  exact ⟨_, rfl, fnd_has hsr hq12, hp14.fr⟩

theorem set_Len (xs : List GTag) (a : Option Addr) (n c sb : Nat) (w : World) (hn : n = xs.length) (hb : xs.length ≤ 4194304) (hx : SlR w a n (xs.flatMap GTag.cells)) (hs : (Res.row sb [.slice a n c] 52).holds w) :
    Calls Try.prog 6 #[.pointer (some ⟨sb, 0, none⟩)] w (fun r_ w' => r_ = .returned (.int .i64 ((n : Nat) : Int)) ∧ Fram Non w w') := by
  refine calls_of Try.func6 rfl 10 rfl (by simp) ?_
  have hp0 := Hp.init w
  have he0 : List.map (env0 [.pointer (some ⟨sb, 0, none⟩)]) [0] = [.pointer (some ⟨sb, 0, none⟩)] := by kernel_rfl
  obtain ⟨b0, he0⟩ := toMk he0
  rw [he0]
  clear he0
  refine WP.seq ?_
  refine WP.pure {} [] [0] [.pointer (some ⟨sb, 0, none⟩)] .nil (by kernel_rfl) (fun b1 => ?_)
  refine thn_n ?_
  refine WP.seq ?_
  refine WP.seq ?_
  refine WP.pure {} [] [0, 4] [.pointer (some ⟨sb, 0, none⟩), .bool false] .nil (by kernel_rfl) (fun b2 => ?_)
  refine thn_n ?_
  refine WP.condF rfl ?_
  refine WP.skip ?_
  refine thn_n ?_
  refine WP.seq ?_
  refine WP.pure {} [.slice a n c] [2] [.int .i64 ((n : Nat) : Int)] (.cons (Ld.row1 (P := Try.prog) (t := 22) (o := 0) (v := .slice a n c) (row_at hs hp0.fr) (by kernel_rfl)) .nil) (by kernel_rfl) (fun b3 => ?_)
  refine thn_n ?_
  refine WP.ret ?_
  refine bodyQ.of _ rfl [.int .i64 ((n : Nat) : Int)] ⟨rfl, trivial⟩ ?_
  exact ⟨rfl, hp0.fr⟩

theorem set_From (xs : List GTag) (a : Option Addr) (n c sb : Nat) (t : GTag) (w : World) (hn : n = xs.length) (hb : xs.length ≤ 4194304) (hx : SlR w a n (xs.flatMap GTag.cells)) (hs : (Res.row sb [.slice a n c] 52).holds w) (hnc : n ≤ c) :
    Calls Try.prog 8 #[.pointer (some ⟨sb, 0, none⟩), GTag.val t] w (fun r_ w' => ∃ ao co at_ b, r_ = .returned (.slice ao (n - at_) co) ∧ fndR xs t at_ b ∧ Hp w Non [Res.own 29 2 (.slice ao (n - at_) co) (n - at_) (List.flatMap GTag.cells (xs.drop at_))] w') := by
  refine calls_of Try.func8 rfl 22 rfl (by simp) ?_
  have hp0 := Hp.init w
  have he0 : List.map (env0 [.pointer (some ⟨sb, 0, none⟩), GTag.val t]) [0, 1] = [.pointer (some ⟨sb, 0, none⟩), GTag.val t] := by kernel_rfl
  obtain ⟨b0, he0⟩ := toMk he0
  rw [he0]
  clear he0
  refine WP.seq ?_
  refine WP.region _ rfl (by kernel_rfl) ?_
  refine OPS.cons (opStep.box hp0 [.int .i64 t.Count, .int .i64 t.Client] (by kernel_rfl) (fun g3 w1 hp2 => ?_))
  refine OPS.batch 1 {} [] [0, 3] [.pointer (some ⟨sb, 0, none⟩), .pointer (some ⟨g3, 0, none⟩)] .nil (by kernel_rfl) (fun b4 => ?_)
  refine OPS.nil ?_
  refine thn_n ?_
  refine WP.seq ?_
  refine WP.seq ?_
  refine WP.pure {} [] [0, 3, 8] [.pointer (some ⟨sb, 0, none⟩), .pointer (some ⟨g3, 0, none⟩), .bool false] .nil (by kernel_rfl) (fun b5 => ?_)
  refine thn_n ?_
  refine WP.condF rfl ?_
  refine WP.skip ?_
  refine thn_n ?_
  refine WP.seq ?_
  refine WP.region _ rfl (by kernel_rfl) ?_
  refine OPS.batch 2 {} [GTag.val t] [0, 10, 11] [.pointer (some ⟨sb, 0, none⟩), .pointer (some ⟨sb, 0, none⟩), GTag.val t] (.cons (show Ld Try.prog w1 29 ⟨g3, 0, none⟩ (GTag.val t) from Ld.rowN (cs := [.int .i64 t.Count, .int .i64 t.Client]) hp2.get0 (by kernel_rfl)) .nil) (by kernel_rfl) (fun b6 => ?_)
  refine OPS.cons (opStep.call (some 12) [.pointer (some ⟨sb, 0, none⟩), GTag.val t, .func (.func 18) #[] #[]] (by kernel_rfl) (tag_find xs a n c sb t _ hn hb (hx.fram hp2.fr) (row_at hs hp2.fr)) ?_)
  rintro _ w9 ⟨at10, b11, rfl, hq12, hf13⟩
  have hq12l := hq12.1
  refine ⟨_, rfl, ?_⟩
  have hp14 := hp2.step hf13
  refine OPS.batch 5 {} [] [0, 5] [.pointer (some ⟨sb, 0, none⟩), .int .i64 ((at10 : Nat) : Int)] .nil (by kernel_rfl) (fun b15 => ?_)
  refine OPS.nil ?_
  refine thn_n ?_
  refine WP.seq ?_
  refine WP.region _ rfl (by kernel_rfl) ?_
  refine OPS.batch 6 {} [.slice a n c] [20] [.slice (slOff a c (at10) 2) (n - at10) (c - at10)] (.cons (Ld.row1 (P := Try.prog) (t := 22) (o := 0) (v := .slice a n c) (row_at hs hp14.fr) (by kernel_rfl)) (.cons (show (0 : Int) ≤ ((at10 : Nat) : Int) ∧ ((at10 : Nat) : Int) ≤ ((n : Nat) : Int) from ⟨by omega, by omega⟩) .nil)) (by kernel_rfl) (fun b16 => ?_)
  refine OPS.cons (opStep.call (some 21) [.slice (slOff a c (at10) 2) (n - at10) (c - at10)] (by kernel_rfl) (t_Clone (xs.drop at10) (slOff a c (at10) 2) (n - at10) (c - at10) _ (by rw [List.length_drop]; omega) (by rw [List.length_drop]; omega) (slr_drop (sz := 2) (fun _ => rfl) hn.symm (hx.at hp14) (by omega) hnc)) ?_)
  rintro _ w19 ⟨a21, c22, rfl, hp20⟩
  refine ⟨_, rfl, ?_⟩
  have hp23 := hp14.made hp20
  refine OPS.batch 1 {} [] [4] [.slice a21 (n - at10) c22] .nil (by kernel_rfl) (fun b24 => ?_)
  refine OPS.nil ?_
  refine thn_n ?_
  refine WP.ret ?_
  refine bodyQ.of _ rfl [.slice a21 (n - at10) c22] ⟨rfl, trivial⟩ ?_
  exact ⟨_, _, _, _, rfl, hq12, (hp23.sub (.cons_cons _ (.cons _ (.slnil))))⟩

end Go.Proofs.Ytoeholipggkcaaa.K
