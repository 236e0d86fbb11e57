/- The walks of LawD: what each function computes. -/
import Derived.Test.YthdkbbpiaeaojaaProg
import Derived.Test.YthdkbbpiaeaojaaCoreO
import Derived.Test.YthdkbbpiaeaojaaLinK
import Derived.Test.YthdkbbpiaeaojaaCoreT
import Derived.Test.YthdkbbpiaeaojaaCoreV
namespace Go.Proofs.Ythdkbbpiaeaojaa.K
open Go Go.Proofs Go.RowKit
set_option linter.unusedVariables false
set_option linter.unusedSimpArgs false
set_option maxRecDepth 20000
set_option maxHeartbeats 4000000

def sh1 (c : GCall) : GCall := ⟨c.Client, c.Op, c.Put, c.Key, c.Value, c.Status, c.From + 100, if 0 ≤ c.To then c.To + 100 else c.To, c.Open, c.Tag⟩
def shB (cl cl2 : List GCall) (k : Nat) : Prop := cl2.length = cl.length ∧ ∀ i, i < cl.length → cl2[i]! = if i < k then sh1 cl[i]! else cl[i]!
theorem shB_step {cl cl2 cl3 : List GCall} {k : Nat} (h : shB cl cl2 k) (hk : k < cl.length) (h3 : cl3.length = cl2.length) (ho : ∀ i, i < cl.length → i ≠ k → cl3[i]! = cl2[i]!) (hat : cl3[k]! = sh1 cl2[k]!) : shB cl cl3 (k + 1) := by
  refine ⟨h3.trans h.1, fun i hi => ?_⟩
  by_cases e : i = k
  · subst e
    rw [hat, h.2 i hi, if_neg (by omega), if_pos (by omega)]
  · rw [ho i hi e, h.2 i hi]
    by_cases c : i < k
    · rw [if_pos c, if_pos (by omega)]
    · rw [if_neg c, if_neg (by omega)]
theorem shB_vb {cl cl2 : List GCall} {k : Nat} {w : World} (h : shB cl cl2 k) (hv : ∀ x ∈ cl, VB w x.Value) : ∀ x ∈ cl2, VB w x.Value := by
  intro x hx
  obtain ⟨i, hi, hg⟩ := List.mem_iff_getElem.1 hx
  have hi' : i < cl.length := by rw [← h.1]; exact hi
  have e : cl2[i]! = x := by
    have := get_bang hi
    rw [List.getElem?_eq_getElem hi, hg] at this
    exact (Option.some.inj this).symm
  have hm := hv cl[i]! (List.mem_of_getElem? (get_bang hi'))
  rw [← e, h.2 i hi']
  split
  · exact hm
  · exact hm
theorem shB_val {cl cl2 : List GCall} {k : Nat} (h : shB cl cl2 k) {i : Nat} (hi : i < cl.length) : cl2[i]!.Value = cl[i]!.Value := by
  rw [h.2 i hi]; split <;> rfl
theorem shB_ok {ts : List Gsherdlaw20_Draft} {cl cl2 : List GCall} {vs : List ByteArray} {n : Nat} (hd : drB ts cl vs n) (h : shB cl cl2 cl.length) {i : Nat} (hi : i < cl2.length) : okArg cl2[i]! := by
  have hl := hd.1
  have hi' : i < cl.length := by rw [← h.1]; exact hi
  have a := dr_ok hd (i := i) (by omega)
  rw [h.2 i hi', if_pos hi']
  unfold okArg at *
  simp only [sh1]
  split <;> omega
theorem all_app {cl t : List GCall} {P : GCall → Prop} (h : ∀ i, i < cl.length → P cl[i]!) (h2 : ∀ i, i < t.length → P t[i]!) : ∀ i, i < (cl ++ t).length → P (cl ++ t)[i]! := by
  intro i hi
  by_cases c : i < cl.length
  · rw [app_head c]; exact h i c
  · have := app_tail cl t (i - cl.length)
    rw [show cl.length + (i - cl.length) = i from by omega] at this
    rw [this]
    exact h2 _ (by simp at hi; omega)
theorem mem_app2 {cl t : List GCall} {P : GCall → Prop} (h : ∀ x ∈ cl, P x) (h2 : ∀ x ∈ t, P x) : ∀ x ∈ cl ++ t, P x := fun x hx => (List.mem_append.1 hx).elim (h x) (h2 x)

theorem dr_rng {ts : List Gsherdlaw20_Draft} {cl cl2 : List GCall} {vs : List ByteArray} {n k : Nat} (hd : drB ts cl vs n) (h : shB cl cl2 k) (hk : k < cl.length) : -1 ≤ cl2[k]!.From ∧ cl2[k]!.From < 100 ∧ -1 ≤ cl2[k]!.To ∧ cl2[k]!.To < 100 := by
  have hl := hd.1
  obtain ⟨a, b, _⟩ := dr_at hd (i := k) (by omega)
  have := dfT_bd ts[k]!
  rw [h.2 k hk, if_neg (by omega), a, b]
  omega

theorem law20_wrong (w : World) (s1 : SlH) (l1 : List Gsherdlaw20_Draft) (o1 : SlR w s1.a s1.n (l1.flatMap Gsherdlaw20_Draft.cells)) (hn1 : s1.n = l1.length) (hc1 : s1.n ≤ 17592186043904) (wh : Int) :
    Calls Try.prog 31 #[.slice s1.a s1.n s1.c, .int .i64 wh] w (fun x w' => x = .returned (.bool true) ∧ Fram Non w w') := by
  refine calls_of Try.func31 rfl 78 rfl (by simp) ?_
  have hp0 := Hp.init w
  have he0 : List.map (env0 [.slice s1.a s1.n s1.c, .int .i64 wh]) [0, 1] = [.slice s1.a s1.n s1.c, .int .i64 wh] := by kernel_rfl
  obtain ⟨b0, he0⟩ := toMk he0
  rw [he0]
  clear he0
  refine WP.seq ?_
  refine WP.pure {} [] [0, 1] [.slice s1.a s1.n s1.c, .int .i64 wh] .nil (by kernel_rfl) (fun b1 => ?_)
  refine thn_n ?_
  refine WP.seq ?_
  refine WP.region _ rfl (by kernel_rfl) ?_
  refine OPS.batch 1 {} [] [1, 10] [.int .i64 wh, .slice s1.a s1.n s1.c] .nil (by kernel_rfl) (fun b2 => ?_)
  refine OPS.cons (opStep.call (some 11) [.slice s1.a s1.n s1.c, .int .i64 5] (by kernel_rfl) (law20_drafted _ s1 l1 (o1.at hp0) hn1 (by omega) 5 (by decide)) ?_)
  rintro _ w5 ⟨ao8, no9, co10, cl11, vs12, F13, rfl, k14, h15, h16, h17, hp6⟩
  refine ⟨_, rfl, ?_⟩
  have hp7 := hp0.madeL hp6
  simp only [List.cons_append, List.nil_append] at hp7
  have h18 := own_flat (sz := 11) (fun _ => rfl) (by decide) hp7.get0
  have := h17.1
  refine OPS.batch 1 {} [] [1, 5] [.int .i64 wh, .slice ao8 no9 co10] .nil (by kernel_rfl) (fun b19 => ?_)
  refine OPS.nil ?_
  refine thn_n ?_
  refine WP.seq ?_
  refine WP.seq ?_
  refine WP.pure {} [] [1, 5, 13, 14] [.int .i64 wh, .slice ao8 no9 co10, .int .i64 ((no9 : Nat) : Int), .int .i64 0] .nil (by kernel_rfl) (fun b20 => ?_)
  refine thn_n ?_
  refine WP.block ?_
  refine WP.loop (fun mz_ e21 w22 => ∃ (k : Nat) (cl2 : List GCall), mz_ = cl11.length - k ∧ (k ≤ cl11.length ∧ shB cl11 cl2 k) ∧ List.map e21 [1, 5, 13, 14] = [.int .i64 wh, .slice ao8 no9 co10, .int .i64 ((no9 : Nat) : Int), .int .i64 (k : Int)] ∧ Hp w Non [Res.own 41 11 (.slice ao8 no9 co10) no9 (List.flatMap GCall.cells cl2), Res.vl F13 cl11 vs12] w22) (cl11.length - (0)) ⟨0, cl11, rfl, ⟨by omega, rfl, fun i hi => by rw [if_neg (by omega)]⟩, by kernel_rfl, hp7⟩ ?_
  rintro _ e21 w22 ⟨k, cl2, rfl, hI24, hE25, hp23⟩
  obtain ⟨b26, rfl⟩ := toMk hE25
  clear hE25
  obtain ⟨ra, sb⟩ := hI24
  have sl := sb.1
  have hkb := fun (q : k < cl11.length) => dr_rng h17 sb q
  have hkr : k < cl11.length → -1 ≤ cl2[k]!.From ∧ cl2[k]!.From < 100 ∧ -1 ≤ cl2[k]!.To ∧ cl2[k]!.To < 100 := hkb
  refine WP.seq ?_
  refine WP.pure {} [] [1, 5, 13, 14, 15] [.int .i64 wh, .slice ao8 no9 co10, .int .i64 ((no9 : Nat) : Int), .int .i64 (k : Int), .bool (decide ((k : Int) < ((no9 : Nat) : Int)))] .nil (by kernel_rfl) (fun b27 => ?_)
  refine thn_n ?_
  refine WP.seq ?_
  refine WP.test (p := (k : Int) < ((no9 : Nat) : Int)) rfl Bp.dec (fun h28 => ?_) (fun h28 => ?_)
  · refine WP.skip ?_
    refine thn_n ?_
    refine WP.seq ?_
    refine WP.block ?_
    refine WP.seq ?_
    refine WP.pure {} [] [1, 5, 6, 13, 14] [.int .i64 wh, .slice ao8 no9 co10, .int .i64 (k : Int), .int .i64 ((no9 : Nat) : Int), .int .i64 (k : Int)] .nil (by kernel_rfl) (fun b29 => ?_)
    refine thn_n ?_
    refine WP.seq ?_
    refine WP.region _ rfl (by kernel_rfl) ?_
    have := own_flat (sz := 11) (fun _ => rfl) (by decide) hp23.get0
    have hy33 : (cl2)[k]? = some cl2[k]! := get_bang (by first | (omega) | (simp only [List.length_append, List.length_cons, List.length_nil]; omega))
    refine OPS.batch 8 {} [.int .i64 (cl2[k]!.From)] [1, 5, 6, 13, 14, 22, 24] [.int .i64 wh, .slice ao8 no9 co10, .int .i64 (k : Int), .int .i64 ((no9 : Nat) : Int), .int .i64 (k : Int), .int .i64 ((cl2[k]!.From) + 100), .pointer (some (((adr ao8).add (k * 11)).add 6))] (.cons (show InB ((k : Int)) (no9) from ⟨by omega, by omega⟩) (.cons ((SlR.own (hp23.get0)).some (by omega)) (.cons (Ld.el1 (P := Try.prog) (t := 3) (SlR.own (hp23.get0)).rd 11 (fun _ => rfl) hy33 (o := 6) (v := .int .i64 (cl2[k]!.From)) (by kernel_rfl)) (.cons (show Rng .i64 ((cl2[k]!.From) + 100) from Rng.i64 (by omega)) (.cons (show InB ((k : Int)) (no9) from ⟨by omega, by omega⟩) (.cons ((SlR.own (hp23.get0)).some (by omega)) .nil)))))) (by kernel_rfl) (fun b34 => ?_)
    have := own_flat (sz := 11) (fun _ => rfl) (by decide) hp23.get0
    try simp only [List.length_set] at this
    refine OPS.cons (opStep.storeOwn0 (k * 11 + 6) hp23 (by exact congrArg (fun z => Value.pointer (some z)) (addr_add2 (adr ao8) (k * 11) 6)) [.int .i64 ((cl2[k]!.From) + 100)] (by kernel_rfl) (by simp) (show k * 11 + 6 + 1 ≤ no9 * 11 by omega) (fun w35 hp36 => ?_))
    have hp37 := hp36
    rw [show ow (List.flatMap GCall.cells cl2) (k * 11 + 6) [.int .i64 ((cl2[k]!.From) + 100)] = List.flatMap GCall.cells (cl2.set k (⟨cl2[k]!.Client, cl2[k]!.Op, cl2[k]!.Put, cl2[k]!.Key, cl2[k]!.Value, cl2[k]!.Status, (cl2[k]!.From) + 100, cl2[k]!.To, cl2[k]!.Open, (⟨cl2[k]!.Tag.Count, cl2[k]!.Tag.Client⟩ : GTag)⟩ : GCall)) from ow_flat_part (sz := 11) (fun _ => rfl) (show 6 + 1 ≤ 11 by decide) (by first | (omega) | (simp only [List.length_set]; omega)) (⟨cl2[k]!.Client, cl2[k]!.Op, cl2[k]!.Put, cl2[k]!.Key, cl2[k]!.Value, cl2[k]!.Status, (cl2[k]!.From) + 100, cl2[k]!.To, cl2[k]!.Open, (⟨cl2[k]!.Tag.Count, cl2[k]!.Tag.Client⟩ : GTag)⟩ : GCall) (by first | rfl | (rw [set_get (by omega), if_pos rfl]; rfl))] at hp37
    refine OPS.nil ?_
    refine thn_n ?_
    refine WP.seq ?_
    refine WP.pure {} [.int .i64 (cl2[k]!.To)] [1, 5, 6, 13, 14, 30] [.int .i64 wh, .slice ao8 no9 co10, .int .i64 (k : Int), .int .i64 ((no9 : Nat) : Int), .int .i64 (k : Int), .bool (decide (0 ≤ (cl2[k]!.To)))] (.cons (show InB ((k : Int)) (no9) from ⟨by omega, by omega⟩) (.cons ((SlR.own (hp37.get0)).some (by omega)) (.cons (Ld.el1 (P := Try.prog) (t := 3) (SlR.own (hp37.get0)).rd 11 (fun _ => rfl) (List.getElem?_set_self (by first | (omega) | (simp only [List.length_set]; omega))) (o := 7) (v := .int .i64 (cl2[k]!.To)) (by kernel_rfl)) .nil))) (by kernel_rfl) (fun b38 => ?_)
    refine thn_n ?_
    refine WP.test (p := 0 ≤ (cl2[k]!.To)) rfl Bp.dec (fun h39 => ?_) (fun h39 => ?_)
    · refine WP.region _ rfl (by kernel_rfl) ?_
      refine OPS.batch 8 {} [.int .i64 (cl2[k]!.To)] [1, 5, 13, 14, 36, 38] [.int .i64 wh, .slice ao8 no9 co10, .int .i64 ((no9 : Nat) : Int), .int .i64 (k : Int), .int .i64 ((cl2[k]!.To) + 100), .pointer (some (((adr ao8).add (k * 11)).add 7))] (.cons (show InB ((k : Int)) (no9) from ⟨by omega, by omega⟩) (.cons ((SlR.own (hp37.get0)).some (by omega)) (.cons (Ld.el1 (P := Try.prog) (t := 3) (SlR.own (hp37.get0)).rd 11 (fun _ => rfl) (List.getElem?_set_self (by first | (omega) | (simp only [List.length_set]; omega))) (o := 7) (v := .int .i64 (cl2[k]!.To)) (by kernel_rfl)) (.cons (show Rng .i64 ((cl2[k]!.To) + 100) from Rng.i64 (by omega)) (.cons (show InB ((k : Int)) (no9) from ⟨by omega, by omega⟩) (.cons ((SlR.own (hp37.get0)).some (by omega)) .nil)))))) (by kernel_rfl) (fun b40 => ?_)
      have := own_flat (sz := 11) (fun _ => rfl) (by decide) hp37.get0
      try simp only [List.length_set] at this
      refine OPS.cons (opStep.storeOwn0 (k * 11 + 7) hp37 (by exact congrArg (fun z => Value.pointer (some z)) (addr_add2 (adr ao8) (k * 11) 7)) [.int .i64 ((cl2[k]!.To) + 100)] (by kernel_rfl) (by simp) (show k * 11 + 7 + 1 ≤ no9 * 11 by omega) (fun w41 hp42 => ?_))
      have hp43 := hp42
      rw [show ow (List.flatMap GCall.cells (cl2.set k (⟨cl2[k]!.Client, cl2[k]!.Op, cl2[k]!.Put, cl2[k]!.Key, cl2[k]!.Value, cl2[k]!.Status, (cl2[k]!.From) + 100, cl2[k]!.To, cl2[k]!.Open, (⟨cl2[k]!.Tag.Count, cl2[k]!.Tag.Client⟩ : GTag)⟩ : GCall))) (k * 11 + 7) [.int .i64 ((cl2[k]!.To) + 100)] = List.flatMap GCall.cells ((cl2.set k (⟨cl2[k]!.Client, cl2[k]!.Op, cl2[k]!.Put, cl2[k]!.Key, cl2[k]!.Value, cl2[k]!.Status, (cl2[k]!.From) + 100, cl2[k]!.To, cl2[k]!.Open, (⟨cl2[k]!.Tag.Count, cl2[k]!.Tag.Client⟩ : GTag)⟩ : GCall)).set k (⟨cl2[k]!.Client, cl2[k]!.Op, cl2[k]!.Put, cl2[k]!.Key, cl2[k]!.Value, cl2[k]!.Status, (cl2[k]!.From) + 100, (cl2[k]!.To) + 100, cl2[k]!.Open, (⟨cl2[k]!.Tag.Count, cl2[k]!.Tag.Client⟩ : GTag)⟩ : GCall)) from ow_flat_part (sz := 11) (fun _ => rfl) (show 7 + 1 ≤ 11 by decide) (by first | (omega) | (simp only [List.length_set]; omega)) (⟨cl2[k]!.Client, cl2[k]!.Op, cl2[k]!.Put, cl2[k]!.Key, cl2[k]!.Value, cl2[k]!.Status, (cl2[k]!.From) + 100, (cl2[k]!.To) + 100, cl2[k]!.Open, (⟨cl2[k]!.Tag.Count, cl2[k]!.Tag.Client⟩ : GTag)⟩ : GCall) (by first | rfl | (rw [set_get (by omega), if_pos rfl]; rfl))] at hp43
      refine OPS.nil ?_
      refine blk_n ?_
      refine thn_n ?_
      refine WP.pure {} [] [1, 5, 13, 14] [.int .i64 wh, .slice ao8 no9 co10, .int .i64 ((no9 : Nat) : Int), .int .i64 ((k : Int) + 1)] (.cons (show Rng .i64 ((k : Int) + 1) from Rng.i64 (by omega)) .nil) (by kernel_rfl) (fun b44 => ?_)
      refine thn_n ?_
      have sb2 : shB cl11 ((cl2.set k (⟨cl2[k]!.Client, cl2[k]!.Op, cl2[k]!.Put, cl2[k]!.Key, cl2[k]!.Value, cl2[k]!.Status, (cl2[k]!.From) + 100, cl2[k]!.To, cl2[k]!.Open, (⟨cl2[k]!.Tag.Count, cl2[k]!.Tag.Client⟩ : GTag)⟩ : GCall)).set k (⟨cl2[k]!.Client, cl2[k]!.Op, cl2[k]!.Put, cl2[k]!.Key, cl2[k]!.Value, cl2[k]!.Status, (cl2[k]!.From) + 100, (cl2[k]!.To) + 100, cl2[k]!.Open, (⟨cl2[k]!.Tag.Count, cl2[k]!.Tag.Client⟩ : GTag)⟩ : GCall)) (k + 1) := shB_step sb (by omega) (by simp only [List.length_set]) (fun i hi hne => by first | (rw [set_get (by simp only [List.length_set]; omega), if_neg hne, set_get (by omega), if_neg hne]) | (rw [set_get (by omega), if_neg hne])) (by first | (rw [set_get (by simp only [List.length_set]; omega), if_pos rfl]; simp only [sh1, if_pos h39]; done) | (rw [set_get (by omega), if_pos rfl]; simp only [sh1, if_neg h39]; done))
      exact ⟨cl11.length - (k + 1), (by omega), k + 1, (cl2.set k (⟨cl2[k]!.Client, cl2[k]!.Op, cl2[k]!.Put, cl2[k]!.Key, cl2[k]!.Value, cl2[k]!.Status, (cl2[k]!.From) + 100, cl2[k]!.To, cl2[k]!.Open, (⟨cl2[k]!.Tag.Count, cl2[k]!.Tag.Client⟩ : GTag)⟩ : GCall)).set k (⟨cl2[k]!.Client, cl2[k]!.Op, cl2[k]!.Put, cl2[k]!.Key, cl2[k]!.Value, cl2[k]!.Status, (cl2[k]!.From) + 100, (cl2[k]!.To) + 100, cl2[k]!.Open, (⟨cl2[k]!.Tag.Count, cl2[k]!.Tag.Client⟩ : GTag)⟩ : GCall), rfl, ⟨by omega, sb2⟩, by kernel_rfl, hp43⟩
    · refine WP.skip ?_
      refine blk_n ?_
      refine thn_n ?_
      refine WP.pure {} [] [1, 5, 13, 14] [.int .i64 wh, .slice ao8 no9 co10, .int .i64 ((no9 : Nat) : Int), .int .i64 ((k : Int) + 1)] (.cons (show Rng .i64 ((k : Int) + 1) from Rng.i64 (by omega)) .nil) (by kernel_rfl) (fun b45 => ?_)
      refine thn_n ?_
      have sb2 : shB cl11 (cl2.set k (⟨cl2[k]!.Client, cl2[k]!.Op, cl2[k]!.Put, cl2[k]!.Key, cl2[k]!.Value, cl2[k]!.Status, (cl2[k]!.From) + 100, cl2[k]!.To, cl2[k]!.Open, (⟨cl2[k]!.Tag.Count, cl2[k]!.Tag.Client⟩ : GTag)⟩ : GCall)) (k + 1) := shB_step sb (by omega) (by simp only [List.length_set]) (fun i hi hne => by first | (rw [set_get (by simp only [List.length_set]; omega), if_neg hne, set_get (by omega), if_neg hne]) | (rw [set_get (by omega), if_neg hne])) (by first | (rw [set_get (by simp only [List.length_set]; omega), if_pos rfl]; simp only [sh1, if_pos h39]; done) | (rw [set_get (by omega), if_pos rfl]; simp only [sh1, if_neg h39]; done))
      exact ⟨cl11.length - (k + 1), (by omega), k + 1, cl2.set k (⟨cl2[k]!.Client, cl2[k]!.Op, cl2[k]!.Put, cl2[k]!.Key, cl2[k]!.Value, cl2[k]!.Status, (cl2[k]!.From) + 100, cl2[k]!.To, cl2[k]!.Open, (⟨cl2[k]!.Tag.Count, cl2[k]!.Tag.Client⟩ : GTag)⟩ : GCall), rfl, ⟨by omega, sb2⟩, by kernel_rfl, hp37⟩
  · refine WP.exit ?_
    refine thn_x ?_
    refine thn_x ?_
    refine blk_hit ?_
    refine thn_n ?_
    refine WP.seq ?_
    refine WP.seq ?_
    refine WP.region _ rfl (by kernel_rfl) ?_
    refine OPS.batch 1 {} [] [5, 40] [.slice ao8 no9 co10, .int .i64 wh] .nil (by kernel_rfl) (fun b46 => ?_)
    refine OPS.cons (opStep.call (some 41) [.int .i64 wh, .int .i64 3] (by kernel_rfl) (law20_mod wh 3 _ (by omega) (by omega)) ?_)
    rintro _ w49 ⟨rfl, hf50⟩
    refine ⟨_, rfl, ?_⟩
    have hp51 := hp23.step hf50
    have := modI_bd wh (k := 3) (by omega)
    refine OPS.nil ?_
    refine thn_n ?_
    refine WP.block ?_
    refine WP.seq ?_
    refine WP.pure {} [] [5, 41, 48] [.slice ao8 no9 co10, .int .i64 (modI wh 3), .bool (decide ((modI wh 3) = 0))] .nil (by kernel_rfl) (fun b52 => ?_)
    refine thn_n ?_
    refine WP.test (p := (modI wh 3) = 0) rfl Bp.dec (fun h53 => ?_) (fun h53 => ?_)
    · refine WP.region _ rfl (by kernel_rfl) ?_
      refine OPS.batch 1 {} [] [50] [.slice ao8 no9 co10] .nil (by kernel_rfl) (fun b54 => ?_)
      refine OPS.cons (opStep.call (some 51) [.string ⟨#[110, 111, 98, 111, 100, 121, 39, 115]⟩, .int .i64 50, .int .i64 300] (by kernel_rfl) (law_get ⟨#[110, 111, 98, 111, 100, 121, 39, 115]⟩ 50 300 _) ?_)
      rintro _ w59 ⟨g57, c58, rfl, hp61⟩
      refine ⟨_, rfl, ?_⟩
      have hp60 := hp51.made hp61
      refine OPS.cons (opStep.buildSlice (E := 41) hp60 [.int .i64 ((getC g57 c58 ⟨#[110, 111, 98, 111, 100, 121, 39, 115]⟩ 50 300).Client), .int .i64 ((getC g57 c58 ⟨#[110, 111, 98, 111, 100, 121, 39, 115]⟩ 50 300).Op), .bool ((getC g57 c58 ⟨#[110, 111, 98, 111, 100, 121, 39, 115]⟩ 50 300).Put), .string ((getC g57 c58 ⟨#[110, 111, 98, 111, 100, 121, 39, 115]⟩ 50 300).Key), .slice ((getC g57 c58 ⟨#[110, 111, 98, 111, 100, 121, 39, 115]⟩ 50 300).Value.a) ((getC g57 c58 ⟨#[110, 111, 98, 111, 100, 121, 39, 115]⟩ 50 300).Value.n) ((getC g57 c58 ⟨#[110, 111, 98, 111, 100, 121, 39, 115]⟩ 50 300).Value.c), .int .i64 ((getC g57 c58 ⟨#[110, 111, 98, 111, 100, 121, 39, 115]⟩ 50 300).Status), .int .i64 ((getC g57 c58 ⟨#[110, 111, 98, 111, 100, 121, 39, 115]⟩ 50 300).From), .int .i64 ((getC g57 c58 ⟨#[110, 111, 98, 111, 100, 121, 39, 115]⟩ 50 300).To), .bool ((getC g57 c58 ⟨#[110, 111, 98, 111, 100, 121, 39, 115]⟩ 50 300).Open), .int .i64 ((getC g57 c58 ⟨#[110, 111, 98, 111, 100, 121, 39, 115]⟩ 50 300).Tag.Count), .int .i64 ((getC g57 c58 ⟨#[110, 111, 98, 111, 100, 121, 39, 115]⟩ 50 300).Tag.Client)] (by kernel_rfl) (fun g64 w62 hp63 => ?_))
      have hrd72 := (SlR.row (n := 1) hp63.get0 rfl).rd
      refine OPS.cons (opStep.append2 _ hp63 112 (by kernel_rfl) rfl rfl rfl hrd72 (List.all_eq_true.1 (by kernel_rfl)) (by decide) (by omega) (by omega) (fun a67 c68 w69 hp70 hn71 => ?_))
      rw [(show List.flatMap GCall.cells cl2 ++ [.int .i64 ((getC g57 c58 ⟨#[110, 111, 98, 111, 100, 121, 39, 115]⟩ 50 300).Client), .int .i64 ((getC g57 c58 ⟨#[110, 111, 98, 111, 100, 121, 39, 115]⟩ 50 300).Op), .bool ((getC g57 c58 ⟨#[110, 111, 98, 111, 100, 121, 39, 115]⟩ 50 300).Put), .string ((getC g57 c58 ⟨#[110, 111, 98, 111, 100, 121, 39, 115]⟩ 50 300).Key), .slice ((getC g57 c58 ⟨#[110, 111, 98, 111, 100, 121, 39, 115]⟩ 50 300).Value.a) ((getC g57 c58 ⟨#[110, 111, 98, 111, 100, 121, 39, 115]⟩ 50 300).Value.n) ((getC g57 c58 ⟨#[110, 111, 98, 111, 100, 121, 39, 115]⟩ 50 300).Value.c), .int .i64 ((getC g57 c58 ⟨#[110, 111, 98, 111, 100, 121, 39, 115]⟩ 50 300).Status), .int .i64 ((getC g57 c58 ⟨#[110, 111, 98, 111, 100, 121, 39, 115]⟩ 50 300).From), .int .i64 ((getC g57 c58 ⟨#[110, 111, 98, 111, 100, 121, 39, 115]⟩ 50 300).To), .bool ((getC g57 c58 ⟨#[110, 111, 98, 111, 100, 121, 39, 115]⟩ 50 300).Open), .int .i64 ((getC g57 c58 ⟨#[110, 111, 98, 111, 100, 121, 39, 115]⟩ 50 300).Tag.Count), .int .i64 ((getC g57 c58 ⟨#[110, 111, 98, 111, 100, 121, 39, 115]⟩ 50 300).Tag.Client)] = List.flatMap GCall.cells (cl2 ++ [(getC g57 c58 ⟨#[110, 111, 98, 111, 100, 121, 39, 115]⟩ 50 300)]) from (List.flatMap_append (xs := cl2) (ys := [(getC g57 c58 ⟨#[110, 111, 98, 111, 100, 121, 39, 115]⟩ 50 300)])).symm)] at hp70
      refine OPS.batch 1 {} [] [5] [.slice a67 (no9 + 1) c68] .nil (by kernel_rfl) (fun b73 => ?_)
      refine OPS.nil ?_
      refine blk_n ?_
      refine thn_n ?_
      refine WP.seq ?_
      refine WP.region _ rfl (by kernel_rfl) ?_
      refine OPS.batch 1 {} [] [62] [.slice a67 (no9 + 1) c68] .nil (by kernel_rfl) (fun b74 => ?_)
      have hk_ : k = cl11.length := by omega
      rw [hk_] at sb
      have hvt : ∀ x ∈ ([(getC g57 c58 ⟨#[110, 111, 98, 111, 100, 121, 39, 115]⟩ 50 300)] : List GCall), VB w69 x.Value := by
        intro x hx
        simp only [List.mem_cons, List.not_mem_nil, or_false] at hx
        rcases hx with rfl
        · exact (VB.bsr (c := c58) hp70.get1).1
      have hva : ∀ i, i < cl2.length → plainV (valAt w69 cl2[i]!.Value) := fun i hi => by rw [shB_val sb (by rw [← sb.1]; exact hi), vl_val hp70.get3 (by rw [← sb.1]; exact hi)]; exact dr_plain h17 (by rw [← h17.1, ← sb.1]; exact hi)
      have hl2_ := sb.1
      have hok_ : ∀ i, i < (cl2 ++ [(getC g57 c58 ⟨#[110, 111, 98, 111, 100, 121, 39, 115]⟩ 50 300)]).length → okArg (cl2 ++ [(getC g57 c58 ⟨#[110, 111, 98, 111, 100, 121, 39, 115]⟩ 50 300)])[i]! := all_app (fun i hi => shB_ok h17 sb hi) (by
        intro i hi
        have hi : i < 1 := hi
        rcases (show i = 0 by omega) with rfl
        · simp [okArg, putC, getC])
      have hlo_ : (cl2 ++ [(getC g57 c58 ⟨#[110, 111, 98, 111, 100, 121, 39, 115]⟩ 50 300)]).length = no9 + 1 := by rw [List.length_append]; simp only [List.length_cons, List.length_nil]; omega
      refine OPS.cons (opStep.call (some 63) [.slice a67 (no9 + 1) c68] (by kernel_rfl) (lin_OneN (cl2 ++ [(getC g57 c58 ⟨#[110, 111, 98, 111, 100, 121, 39, 115]⟩ 50 300)]) (no9 + 1) hlo_ a67 c68 _ (SlR.own hp70.get2) (mem_app2 (shB_vb sb (vl_vb hp70.get3)) hvt) (by omega)) ?_)
      rintro _ w77 ⟨xs82, ok83, e84, ao85, no86, co87, rfl, hx79, hn80⟩
      obtain ⟨e0_, e1_, e2_⟩ := ex_one hok_ (by omega) hx79
      subst e0_
      have e3_ : ok83 = false := by cases ok83; rfl; exact absurd (e1_.1 rfl) (wrong0 hva rfl (by rw [show (getC g57 c58 ⟨#[110, 111, 98, 111, 100, 121, 39, 115]⟩ 50 300).Value = (⟨some ⟨g57, 0, none⟩, (⟨#[110, 111, 98, 111, 100, 121, 39, 115]⟩ : ByteArray).size, c58⟩ : SlH) from rfl, (VB.bsr (c := c58) hp70.get1).2]; unfold plainV; decide))
      subst e3_
      have e4_ := e2_ rfl
      subst e4_
      refine ⟨_, rfl, ?_⟩
      have hp78 := hp70.made hn80
      have hno_ := own_flat (sz := 1) (fun _ => rfl) (by decide) hp78.get0
      rw [List.length_nil] at hno_
      refine OPS.batch 7 {} [] [7, 8, 9] [.slice ao85 no86 co87, .bool false, .int .i64 0] .nil (by kernel_rfl) (fun b88 => ?_)
      refine OPS.nil ?_
      refine thn_n ?_
      refine WP.seq ?_
      refine WP.pure { wraps := [72, 77] } [] [4] [.bool (decide (((no86 : Nat) : Int) = 0))] .nil (by kernel_rfl) (fun b89 => ?_)
      refine thn_n ?_
      refine WP.ret ?_
      refine bodyQ.of _ rfl [.bool (decide (((no86 : Nat) : Int) = 0))] ⟨rfl, trivial⟩ ?_
      exact ⟨congrArg (fun b => Ending.returned (.bool b)) (Bp.tt Bp.dec (by first | omega | simp_all)), hp78.fr⟩
    · refine WP.seq ?_
      refine WP.pure {} [] [5, 54] [.slice ao8 no9 co10, .bool (decide ((modI wh 3) = 1))] .nil (by kernel_rfl) (fun b90 => ?_)
      refine thn_n ?_
      refine WP.test (p := (modI wh 3) = 1) rfl Bp.dec (fun h91 => ?_) (fun h91 => ?_)
      · refine WP.region _ rfl (by kernel_rfl) ?_
        refine OPS.batch 1 {} [] [56] [.slice ao8 no9 co10] .nil (by kernel_rfl) (fun b92 => ?_)
        refine OPS.cons (opStep.call (some 57) [.string ⟨#[120]⟩, .int .i64 0, .int .i64 1] (by kernel_rfl) (law_put ⟨#[120]⟩ 0 1 _) ?_)
        rintro _ w97 ⟨g95, c96, rfl, hp99⟩
        refine ⟨_, rfl, ?_⟩
        have hp98 := hp51.made hp99
        refine OPS.cons (opStep.call (some 58) [.string ⟨#[]⟩, .int .i64 2, .int .i64 300] (by kernel_rfl) (law_get ⟨#[]⟩ 2 300 _) ?_)
        rintro _ w104 ⟨g102, c103, rfl, hp106⟩
        refine ⟨_, rfl, ?_⟩
        have hp105 := hp98.made hp106
        refine OPS.cons (opStep.buildSlice (E := 41) hp105 [.int .i64 ((putC g95 c96 ⟨#[120]⟩ 0 1).Client), .int .i64 ((putC g95 c96 ⟨#[120]⟩ 0 1).Op), .bool ((putC g95 c96 ⟨#[120]⟩ 0 1).Put), .string ((putC g95 c96 ⟨#[120]⟩ 0 1).Key), .slice ((putC g95 c96 ⟨#[120]⟩ 0 1).Value.a) ((putC g95 c96 ⟨#[120]⟩ 0 1).Value.n) ((putC g95 c96 ⟨#[120]⟩ 0 1).Value.c), .int .i64 ((putC g95 c96 ⟨#[120]⟩ 0 1).Status), .int .i64 ((putC g95 c96 ⟨#[120]⟩ 0 1).From), .int .i64 ((putC g95 c96 ⟨#[120]⟩ 0 1).To), .bool ((putC g95 c96 ⟨#[120]⟩ 0 1).Open), .int .i64 ((putC g95 c96 ⟨#[120]⟩ 0 1).Tag.Count), .int .i64 ((putC g95 c96 ⟨#[120]⟩ 0 1).Tag.Client), .int .i64 ((getC g102 c103 ⟨#[]⟩ 2 300).Client), .int .i64 ((getC g102 c103 ⟨#[]⟩ 2 300).Op), .bool ((getC g102 c103 ⟨#[]⟩ 2 300).Put), .string ((getC g102 c103 ⟨#[]⟩ 2 300).Key), .slice ((getC g102 c103 ⟨#[]⟩ 2 300).Value.a) ((getC g102 c103 ⟨#[]⟩ 2 300).Value.n) ((getC g102 c103 ⟨#[]⟩ 2 300).Value.c), .int .i64 ((getC g102 c103 ⟨#[]⟩ 2 300).Status), .int .i64 ((getC g102 c103 ⟨#[]⟩ 2 300).From), .int .i64 ((getC g102 c103 ⟨#[]⟩ 2 300).To), .bool ((getC g102 c103 ⟨#[]⟩ 2 300).Open), .int .i64 ((getC g102 c103 ⟨#[]⟩ 2 300).Tag.Count), .int .i64 ((getC g102 c103 ⟨#[]⟩ 2 300).Tag.Client)] (by kernel_rfl) (fun g109 w107 hp108 => ?_))
        refine OPS.cons (opStep.append3 [.int .i64 ((putC g95 c96 ⟨#[120]⟩ 0 1).Client), .int .i64 ((putC g95 c96 ⟨#[120]⟩ 0 1).Op), .bool ((putC g95 c96 ⟨#[120]⟩ 0 1).Put), .string ((putC g95 c96 ⟨#[120]⟩ 0 1).Key), .slice ((putC g95 c96 ⟨#[120]⟩ 0 1).Value.a) ((putC g95 c96 ⟨#[120]⟩ 0 1).Value.n) ((putC g95 c96 ⟨#[120]⟩ 0 1).Value.c), .int .i64 ((putC g95 c96 ⟨#[120]⟩ 0 1).Status), .int .i64 ((putC g95 c96 ⟨#[120]⟩ 0 1).From), .int .i64 ((putC g95 c96 ⟨#[120]⟩ 0 1).To), .bool ((putC g95 c96 ⟨#[120]⟩ 0 1).Open), .int .i64 ((putC g95 c96 ⟨#[120]⟩ 0 1).Tag.Count), .int .i64 ((putC g95 c96 ⟨#[120]⟩ 0 1).Tag.Client), .int .i64 ((getC g102 c103 ⟨#[]⟩ 2 300).Client), .int .i64 ((getC g102 c103 ⟨#[]⟩ 2 300).Op), .bool ((getC g102 c103 ⟨#[]⟩ 2 300).Put), .string ((getC g102 c103 ⟨#[]⟩ 2 300).Key), .slice ((getC g102 c103 ⟨#[]⟩ 2 300).Value.a) ((getC g102 c103 ⟨#[]⟩ 2 300).Value.n) ((getC g102 c103 ⟨#[]⟩ 2 300).Value.c), .int .i64 ((getC g102 c103 ⟨#[]⟩ 2 300).Status), .int .i64 ((getC g102 c103 ⟨#[]⟩ 2 300).From), .int .i64 ((getC g102 c103 ⟨#[]⟩ 2 300).To), .bool ((getC g102 c103 ⟨#[]⟩ 2 300).Open), .int .i64 ((getC g102 c103 ⟨#[]⟩ 2 300).Tag.Count), .int .i64 ((getC g102 c103 ⟨#[]⟩ 2 300).Tag.Client)] hp108 112 (by kernel_rfl) rfl rfl rfl (SlR.row (n := 2) hp108.get0 rfl).rd (List.all_eq_true.1 (by kernel_rfl)) (by decide) (by omega) (by omega) (fun a112 c113 w114 hp115 hn116 => ?_))
        rw [(show List.flatMap GCall.cells cl2 ++ [.int .i64 ((putC g95 c96 ⟨#[120]⟩ 0 1).Client), .int .i64 ((putC g95 c96 ⟨#[120]⟩ 0 1).Op), .bool ((putC g95 c96 ⟨#[120]⟩ 0 1).Put), .string ((putC g95 c96 ⟨#[120]⟩ 0 1).Key), .slice ((putC g95 c96 ⟨#[120]⟩ 0 1).Value.a) ((putC g95 c96 ⟨#[120]⟩ 0 1).Value.n) ((putC g95 c96 ⟨#[120]⟩ 0 1).Value.c), .int .i64 ((putC g95 c96 ⟨#[120]⟩ 0 1).Status), .int .i64 ((putC g95 c96 ⟨#[120]⟩ 0 1).From), .int .i64 ((putC g95 c96 ⟨#[120]⟩ 0 1).To), .bool ((putC g95 c96 ⟨#[120]⟩ 0 1).Open), .int .i64 ((putC g95 c96 ⟨#[120]⟩ 0 1).Tag.Count), .int .i64 ((putC g95 c96 ⟨#[120]⟩ 0 1).Tag.Client), .int .i64 ((getC g102 c103 ⟨#[]⟩ 2 300).Client), .int .i64 ((getC g102 c103 ⟨#[]⟩ 2 300).Op), .bool ((getC g102 c103 ⟨#[]⟩ 2 300).Put), .string ((getC g102 c103 ⟨#[]⟩ 2 300).Key), .slice ((getC g102 c103 ⟨#[]⟩ 2 300).Value.a) ((getC g102 c103 ⟨#[]⟩ 2 300).Value.n) ((getC g102 c103 ⟨#[]⟩ 2 300).Value.c), .int .i64 ((getC g102 c103 ⟨#[]⟩ 2 300).Status), .int .i64 ((getC g102 c103 ⟨#[]⟩ 2 300).From), .int .i64 ((getC g102 c103 ⟨#[]⟩ 2 300).To), .bool ((getC g102 c103 ⟨#[]⟩ 2 300).Open), .int .i64 ((getC g102 c103 ⟨#[]⟩ 2 300).Tag.Count), .int .i64 ((getC g102 c103 ⟨#[]⟩ 2 300).Tag.Client)] = List.flatMap GCall.cells (cl2 ++ [(putC g95 c96 ⟨#[120]⟩ 0 1), (getC g102 c103 ⟨#[]⟩ 2 300)]) from (List.flatMap_append (xs := cl2) (ys := [(putC g95 c96 ⟨#[120]⟩ 0 1), (getC g102 c103 ⟨#[]⟩ 2 300)])).symm)] at hp115
        refine OPS.batch 1 {} [] [5] [.slice a112 (no9 + 2) c113] .nil (by kernel_rfl) (fun b117 => ?_)
        refine OPS.nil ?_
        refine blk_n ?_
        refine thn_n ?_
        refine WP.seq ?_
        refine WP.region _ rfl (by kernel_rfl) ?_
        refine OPS.batch 1 {} [] [62] [.slice a112 (no9 + 2) c113] .nil (by kernel_rfl) (fun b118 => ?_)
        have hk_ : k = cl11.length := by omega
        rw [hk_] at sb
        have hvt : ∀ x ∈ ([(putC g95 c96 ⟨#[120]⟩ 0 1), (getC g102 c103 ⟨#[]⟩ 2 300)] : List GCall), VB w114 x.Value := by
          intro x hx
          simp only [List.mem_cons, List.not_mem_nil, or_false] at hx
          rcases hx with rfl | rfl
          · exact (VB.bsr (c := c96) hp115.get2).1
          · exact (VB.bsr (c := c103) hp115.get1).1
        have hva : ∀ i, i < cl2.length → plainV (valAt w114 cl2[i]!.Value) := fun i hi => by rw [shB_val sb (by rw [← sb.1]; exact hi), vl_val hp115.get4 (by rw [← sb.1]; exact hi)]; exact dr_plain h17 (by rw [← h17.1, ← sb.1]; exact hi)
        have hl2_ := sb.1
        have hok_ : ∀ i, i < (cl2 ++ [(putC g95 c96 ⟨#[120]⟩ 0 1), (getC g102 c103 ⟨#[]⟩ 2 300)]).length → okArg (cl2 ++ [(putC g95 c96 ⟨#[120]⟩ 0 1), (getC g102 c103 ⟨#[]⟩ 2 300)])[i]! := all_app (fun i hi => shB_ok h17 sb hi) (by
          intro i hi
          have hi : i < 2 := hi
          rcases (show i = 0 ∨ i = 1 by omega) with rfl | rfl
          · simp [okArg, putC, getC]
          · simp [okArg, putC, getC])
        have hlo_ : (cl2 ++ [(putC g95 c96 ⟨#[120]⟩ 0 1), (getC g102 c103 ⟨#[]⟩ 2 300)]).length = no9 + 2 := by rw [List.length_append]; simp only [List.length_cons, List.length_nil]; omega
        refine OPS.cons (opStep.call (some 63) [.slice a112 (no9 + 2) c113] (by kernel_rfl) (lin_OneN (cl2 ++ [(putC g95 c96 ⟨#[120]⟩ 0 1), (getC g102 c103 ⟨#[]⟩ 2 300)]) (no9 + 2) hlo_ a112 c113 _ (SlR.own hp115.get3) (mem_app2 (shB_vb sb (vl_vb hp115.get4)) hvt) (by omega)) ?_)
        rintro _ w121 ⟨xs126, ok127, e128, ao129, no130, co131, rfl, hx123, hn124⟩
        obtain ⟨e0_, e1_, e2_⟩ := ex_one hok_ (by omega) hx123
        subst e0_
        have e3_ : ok127 = false := by cases ok127; rfl; exact absurd (e1_.1 rfl) (wrong1 rfl rfl)
        subst e3_
        have e4_ := e2_ rfl
        subst e4_
        refine ⟨_, rfl, ?_⟩
        have hp122 := hp115.made hn124
        have hno_ := own_flat (sz := 1) (fun _ => rfl) (by decide) hp122.get0
        rw [List.length_nil] at hno_
        refine OPS.batch 7 {} [] [7, 8, 9] [.slice ao129 no130 co131, .bool false, .int .i64 0] .nil (by kernel_rfl) (fun b132 => ?_)
        refine OPS.nil ?_
        refine thn_n ?_
        refine WP.seq ?_
        refine WP.pure { wraps := [72, 77] } [] [4] [.bool (decide (((no130 : Nat) : Int) = 0))] .nil (by kernel_rfl) (fun b133 => ?_)
        refine thn_n ?_
        refine WP.ret ?_
        refine bodyQ.of _ rfl [.bool (decide (((no130 : Nat) : Int) = 0))] ⟨rfl, trivial⟩ ?_
        exact ⟨congrArg (fun b => Ending.returned (.bool b)) (Bp.tt Bp.dec (by first | omega | simp_all)), hp122.fr⟩
      · refine WP.region _ rfl (by kernel_rfl) ?_
        refine OPS.batch 1 {} [] [42] [.slice ao8 no9 co10] .nil (by kernel_rfl) (fun b134 => ?_)
        refine OPS.cons (opStep.call (some 43) [.string ⟨#[120]⟩, .int .i64 0, .int .i64 1] (by kernel_rfl) (law_put ⟨#[120]⟩ 0 1 _) ?_)
        rintro _ w139 ⟨g137, c138, rfl, hp141⟩
        refine ⟨_, rfl, ?_⟩
        have hp140 := hp51.made hp141
        refine OPS.cons (opStep.call (some 44) [.string ⟨#[121]⟩, .int .i64 2, .int .i64 3] (by kernel_rfl) (law_put ⟨#[121]⟩ 2 3 _) ?_)
        rintro _ w146 ⟨g144, c145, rfl, hp148⟩
        refine ⟨_, rfl, ?_⟩
        have hp147 := hp140.made hp148
        refine OPS.cons (opStep.call (some 45) [.string ⟨#[120]⟩, .int .i64 4, .int .i64 300] (by kernel_rfl) (law_get ⟨#[120]⟩ 4 300 _) ?_)
        rintro _ w153 ⟨g151, c152, rfl, hp155⟩
        refine ⟨_, rfl, ?_⟩
        have hp154 := hp147.made hp155
        refine OPS.cons (opStep.buildSlice (E := 41) hp154 [.int .i64 ((putC g137 c138 ⟨#[120]⟩ 0 1).Client), .int .i64 ((putC g137 c138 ⟨#[120]⟩ 0 1).Op), .bool ((putC g137 c138 ⟨#[120]⟩ 0 1).Put), .string ((putC g137 c138 ⟨#[120]⟩ 0 1).Key), .slice ((putC g137 c138 ⟨#[120]⟩ 0 1).Value.a) ((putC g137 c138 ⟨#[120]⟩ 0 1).Value.n) ((putC g137 c138 ⟨#[120]⟩ 0 1).Value.c), .int .i64 ((putC g137 c138 ⟨#[120]⟩ 0 1).Status), .int .i64 ((putC g137 c138 ⟨#[120]⟩ 0 1).From), .int .i64 ((putC g137 c138 ⟨#[120]⟩ 0 1).To), .bool ((putC g137 c138 ⟨#[120]⟩ 0 1).Open), .int .i64 ((putC g137 c138 ⟨#[120]⟩ 0 1).Tag.Count), .int .i64 ((putC g137 c138 ⟨#[120]⟩ 0 1).Tag.Client), .int .i64 ((putC g144 c145 ⟨#[121]⟩ 2 3).Client), .int .i64 ((putC g144 c145 ⟨#[121]⟩ 2 3).Op), .bool ((putC g144 c145 ⟨#[121]⟩ 2 3).Put), .string ((putC g144 c145 ⟨#[121]⟩ 2 3).Key), .slice ((putC g144 c145 ⟨#[121]⟩ 2 3).Value.a) ((putC g144 c145 ⟨#[121]⟩ 2 3).Value.n) ((putC g144 c145 ⟨#[121]⟩ 2 3).Value.c), .int .i64 ((putC g144 c145 ⟨#[121]⟩ 2 3).Status), .int .i64 ((putC g144 c145 ⟨#[121]⟩ 2 3).From), .int .i64 ((putC g144 c145 ⟨#[121]⟩ 2 3).To), .bool ((putC g144 c145 ⟨#[121]⟩ 2 3).Open), .int .i64 ((putC g144 c145 ⟨#[121]⟩ 2 3).Tag.Count), .int .i64 ((putC g144 c145 ⟨#[121]⟩ 2 3).Tag.Client), .int .i64 ((getC g151 c152 ⟨#[120]⟩ 4 300).Client), .int .i64 ((getC g151 c152 ⟨#[120]⟩ 4 300).Op), .bool ((getC g151 c152 ⟨#[120]⟩ 4 300).Put), .string ((getC g151 c152 ⟨#[120]⟩ 4 300).Key), .slice ((getC g151 c152 ⟨#[120]⟩ 4 300).Value.a) ((getC g151 c152 ⟨#[120]⟩ 4 300).Value.n) ((getC g151 c152 ⟨#[120]⟩ 4 300).Value.c), .int .i64 ((getC g151 c152 ⟨#[120]⟩ 4 300).Status), .int .i64 ((getC g151 c152 ⟨#[120]⟩ 4 300).From), .int .i64 ((getC g151 c152 ⟨#[120]⟩ 4 300).To), .bool ((getC g151 c152 ⟨#[120]⟩ 4 300).Open), .int .i64 ((getC g151 c152 ⟨#[120]⟩ 4 300).Tag.Count), .int .i64 ((getC g151 c152 ⟨#[120]⟩ 4 300).Tag.Client)] (by kernel_rfl) (fun g158 w156 hp157 => ?_))
        have hrd166 := (SlR.row (n := 3) hp157.get0 rfl).rd
        refine OPS.cons (opStep.append4 _ hp157 112 (by kernel_rfl) rfl rfl rfl hrd166 (List.all_eq_true.1 (by kernel_rfl)) (by decide) (by omega) (by omega) (fun a161 c162 w163 hp164 hn165 => ?_))
        rw [(show List.flatMap GCall.cells cl2 ++ [.int .i64 ((putC g137 c138 ⟨#[120]⟩ 0 1).Client), .int .i64 ((putC g137 c138 ⟨#[120]⟩ 0 1).Op), .bool ((putC g137 c138 ⟨#[120]⟩ 0 1).Put), .string ((putC g137 c138 ⟨#[120]⟩ 0 1).Key), .slice ((putC g137 c138 ⟨#[120]⟩ 0 1).Value.a) ((putC g137 c138 ⟨#[120]⟩ 0 1).Value.n) ((putC g137 c138 ⟨#[120]⟩ 0 1).Value.c), .int .i64 ((putC g137 c138 ⟨#[120]⟩ 0 1).Status), .int .i64 ((putC g137 c138 ⟨#[120]⟩ 0 1).From), .int .i64 ((putC g137 c138 ⟨#[120]⟩ 0 1).To), .bool ((putC g137 c138 ⟨#[120]⟩ 0 1).Open), .int .i64 ((putC g137 c138 ⟨#[120]⟩ 0 1).Tag.Count), .int .i64 ((putC g137 c138 ⟨#[120]⟩ 0 1).Tag.Client), .int .i64 ((putC g144 c145 ⟨#[121]⟩ 2 3).Client), .int .i64 ((putC g144 c145 ⟨#[121]⟩ 2 3).Op), .bool ((putC g144 c145 ⟨#[121]⟩ 2 3).Put), .string ((putC g144 c145 ⟨#[121]⟩ 2 3).Key), .slice ((putC g144 c145 ⟨#[121]⟩ 2 3).Value.a) ((putC g144 c145 ⟨#[121]⟩ 2 3).Value.n) ((putC g144 c145 ⟨#[121]⟩ 2 3).Value.c), .int .i64 ((putC g144 c145 ⟨#[121]⟩ 2 3).Status), .int .i64 ((putC g144 c145 ⟨#[121]⟩ 2 3).From), .int .i64 ((putC g144 c145 ⟨#[121]⟩ 2 3).To), .bool ((putC g144 c145 ⟨#[121]⟩ 2 3).Open), .int .i64 ((putC g144 c145 ⟨#[121]⟩ 2 3).Tag.Count), .int .i64 ((putC g144 c145 ⟨#[121]⟩ 2 3).Tag.Client), .int .i64 ((getC g151 c152 ⟨#[120]⟩ 4 300).Client), .int .i64 ((getC g151 c152 ⟨#[120]⟩ 4 300).Op), .bool ((getC g151 c152 ⟨#[120]⟩ 4 300).Put), .string ((getC g151 c152 ⟨#[120]⟩ 4 300).Key), .slice ((getC g151 c152 ⟨#[120]⟩ 4 300).Value.a) ((getC g151 c152 ⟨#[120]⟩ 4 300).Value.n) ((getC g151 c152 ⟨#[120]⟩ 4 300).Value.c), .int .i64 ((getC g151 c152 ⟨#[120]⟩ 4 300).Status), .int .i64 ((getC g151 c152 ⟨#[120]⟩ 4 300).From), .int .i64 ((getC g151 c152 ⟨#[120]⟩ 4 300).To), .bool ((getC g151 c152 ⟨#[120]⟩ 4 300).Open), .int .i64 ((getC g151 c152 ⟨#[120]⟩ 4 300).Tag.Count), .int .i64 ((getC g151 c152 ⟨#[120]⟩ 4 300).Tag.Client)] = List.flatMap GCall.cells (cl2 ++ [(putC g137 c138 ⟨#[120]⟩ 0 1), (putC g144 c145 ⟨#[121]⟩ 2 3), (getC g151 c152 ⟨#[120]⟩ 4 300)]) from (List.flatMap_append (xs := cl2) (ys := [(putC g137 c138 ⟨#[120]⟩ 0 1), (putC g144 c145 ⟨#[121]⟩ 2 3), (getC g151 c152 ⟨#[120]⟩ 4 300)])).symm)] at hp164
        refine OPS.batch 1 {} [] [5] [.slice a161 (no9 + 3) c162] .nil (by kernel_rfl) (fun b167 => ?_)
        refine OPS.nil ?_
        refine blk_n ?_
        refine thn_n ?_
        refine WP.seq ?_
        refine WP.region _ rfl (by kernel_rfl) ?_
        refine OPS.batch 1 {} [] [62] [.slice a161 (no9 + 3) c162] .nil (by kernel_rfl) (fun b168 => ?_)
        have hk_ : k = cl11.length := by omega
        rw [hk_] at sb
        have hvt : ∀ x ∈ ([(putC g137 c138 ⟨#[120]⟩ 0 1), (putC g144 c145 ⟨#[121]⟩ 2 3), (getC g151 c152 ⟨#[120]⟩ 4 300)] : List GCall), VB w163 x.Value := by
          intro x hx
          simp only [List.mem_cons, List.not_mem_nil, or_false] at hx
          rcases hx with rfl | rfl | rfl
          · exact (VB.bsr (c := c138) hp164.get3).1
          · exact (VB.bsr (c := c145) hp164.get2).1
          · exact (VB.bsr (c := c152) hp164.get1).1
        have hva : ∀ i, i < cl2.length → plainV (valAt w163 cl2[i]!.Value) := fun i hi => by rw [shB_val sb (by rw [← sb.1]; exact hi), vl_val hp164.get5 (by rw [← sb.1]; exact hi)]; exact dr_plain h17 (by rw [← h17.1, ← sb.1]; exact hi)
        have hl2_ := sb.1
        have hok_ : ∀ i, i < (cl2 ++ [(putC g137 c138 ⟨#[120]⟩ 0 1), (putC g144 c145 ⟨#[121]⟩ 2 3), (getC g151 c152 ⟨#[120]⟩ 4 300)]).length → okArg (cl2 ++ [(putC g137 c138 ⟨#[120]⟩ 0 1), (putC g144 c145 ⟨#[121]⟩ 2 3), (getC g151 c152 ⟨#[120]⟩ 4 300)])[i]! := all_app (fun i hi => shB_ok h17 sb hi) (by
          intro i hi
          have hi : i < 3 := hi
          rcases (show i = 0 ∨ i = 1 ∨ i = 2 by omega) with rfl | rfl | rfl
          · simp [okArg, putC, getC]
          · simp [okArg, putC, getC]
          · simp [okArg, putC, getC])
        have hlo_ : (cl2 ++ [(putC g137 c138 ⟨#[120]⟩ 0 1), (putC g144 c145 ⟨#[121]⟩ 2 3), (getC g151 c152 ⟨#[120]⟩ 4 300)]).length = no9 + 3 := by rw [List.length_append]; simp only [List.length_cons, List.length_nil]; omega
        refine OPS.cons (opStep.call (some 63) [.slice a161 (no9 + 3) c162] (by kernel_rfl) (lin_OneN (cl2 ++ [(putC g137 c138 ⟨#[120]⟩ 0 1), (putC g144 c145 ⟨#[121]⟩ 2 3), (getC g151 c152 ⟨#[120]⟩ 4 300)]) (no9 + 3) hlo_ a161 c162 _ (SlR.own hp164.get4) (mem_app2 (shB_vb sb (vl_vb hp164.get5)) hvt) (by omega)) ?_)
        rintro _ w171 ⟨xs176, ok177, e178, ao179, no180, co181, rfl, hx173, hn174⟩
        obtain ⟨e0_, e1_, e2_⟩ := ex_one hok_ (by omega) hx173
        subst e0_
        have e3_ : ok177 = false := by cases ok177; rfl; exact absurd (e1_.1 rfl) (wrong2 hva rfl rfl rfl (by rw [show (getC g151 c152 ⟨#[120]⟩ 4 300).Value = (⟨some ⟨g151, 0, none⟩, (⟨#[120]⟩ : ByteArray).size, c152⟩ : SlH) from rfl, (VB.bsr (c := c152) hp164.get1).2]; unfold plainV; decide) (by rw [show (putC g144 c145 ⟨#[121]⟩ 2 3).Value = (⟨some ⟨g144, 0, none⟩, (⟨#[121]⟩ : ByteArray).size, c145⟩ : SlH) from rfl, (VB.bsr (c := c145) hp164.get2).2, show (getC g151 c152 ⟨#[120]⟩ 4 300).Value = (⟨some ⟨g151, 0, none⟩, (⟨#[120]⟩ : ByteArray).size, c152⟩ : SlH) from rfl, (VB.bsr (c := c152) hp164.get1).2]; decide))
        subst e3_
        have e4_ := e2_ rfl
        subst e4_
        refine ⟨_, rfl, ?_⟩
        have hp172 := hp164.made hn174
        have hno_ := own_flat (sz := 1) (fun _ => rfl) (by decide) hp172.get0
        rw [List.length_nil] at hno_
        refine OPS.batch 7 {} [] [7, 8, 9] [.slice ao179 no180 co181, .bool false, .int .i64 0] .nil (by kernel_rfl) (fun b182 => ?_)
        refine OPS.nil ?_
        refine thn_n ?_
        refine WP.seq ?_
        refine WP.pure { wraps := [72, 77] } [] [4] [.bool (decide (((no180 : Nat) : Int) = 0))] .nil (by kernel_rfl) (fun b183 => ?_)
        refine thn_n ?_
        refine WP.ret ?_
        refine bodyQ.of _ rfl [.bool (decide (((no180 : Nat) : Int) = 0))] ⟨rfl, trivial⟩ ?_
        exact ⟨congrArg (fun b => Ending.returned (.bool b)) (Bp.tt Bp.dec (by first | omega | simp_all)), hp172.fr⟩

end Go.Proofs.Ythdkbbpiaeaojaa.K
