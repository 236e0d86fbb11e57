/- The walks of PlayA: what each function computes. -/
import Derived.Test.YthdkbbpiaeaojaaProg
import Derived.Test.YthdkbbpiaeaojaaCoreO
import Derived.Test.YthdkbbpiaeaojaaQuoN
import Derived.Test.YthdkbbpiaeaojaaCoreQ
import Derived.Test.YthdkbbpiaeaojaaCoreT
import Derived.Test.YthdkbbpiaeaojaaCoreV
namespace Go.Proofs.Ythdkbbpiaeaojaa.K
open Go Go.Proofs Go.RowKit
set_option linter.unusedVariables false
set_option linter.unusedSimpArgs false
set_option maxRecDepth 20000
set_option maxHeartbeats 4000000

def Rel (c : GConfig) (m : Nat) (ys : List Int) : Prop := ys.Nodup ∧ (∀ y ∈ ys, inN c y) ∧ ∀ y : Int, 0 ≤ y → (m.testBit y.toNat = true ↔ y ∈ ys)
theorem rel_hit {c : GConfig} {m : Nat} {ys : List Int} {x y : Int} (h : Rel c m ys) (hy : y ∈ ys) (e : y = x) : inN c x ∧ m.testBit x.toNat = true := by
  subst e
  have := h.2.1 y hy
  exact ⟨this, (h.2.2 y this.1).2 hy⟩
theorem rel_miss {c : GConfig} {m : Nat} {ys : List Int} {x : Int} (h : Rel c m ys) (hn : ¬ x ∈ ys) : ¬ (inN c x ∧ m.testBit x.toNat = true) := fun q => hn ((h.2.2 x q.1.1).1 q.2)
theorem rel_zero (c : GConfig) : Rel c 0 [] := ⟨List.nodup_nil, by simp, by simp⟩
theorem not_mem_of {ys : List Int} {x : Int} (h : ∀ j, j < ys.length → ¬ ys[j]! = x) : ¬ x ∈ ys := by
  intro hx
  obtain ⟨j, hj, hg⟩ := List.mem_iff_getElem.1 hx
  refine h j hj ?_
  have := get_bang hj
  rw [List.getElem?_eq_getElem hj, hg] at this
  exact (Option.some.inj this).symm
theorem rel_small {c : GConfig} {m : Nat} {ys : List Int} (h : Rel c m ys) : small c m := fun i hi => by
  cases hb : m.testBit i with
  | false => rfl
  | true =>
    have := h.2.1 _ ((h.2.2 (i : Int) (by omega)).1 (by simpa using hb))
    unfold inN at this; omega
theorem rel_sel {c : GConfig} {m : Nat} {ys : List Int} (h : Rel c m ys) : ys.length = (sel m true c.N.toNat).length := by
  have hp : ys.Perm (ints (sel m true c.N.toNat)) := by
    refine (List.perm_ext_iff_of_nodup h.1 ?_).2 fun y => ?_
    · unfold ints sel
      unfold List.Nodup; rw [List.pairwise_map]; exact (List.nodup_range.filter _).imp fun hne e => hne (by omega)
    · unfold ints
      rw [List.mem_map]
      constructor
      · intro hy
        have h1 := h.2.1 y hy
        unfold inN at h1
        exact ⟨y.toNat, sel_mem.2 ⟨by omega, (h.2.2 y h1.1).2 hy⟩, by omega⟩
      · rintro ⟨k, hk, rfl⟩
        exact (h.2.2 (k : Int) (by omega)).1 (by simpa using (sel_mem.1 hk).2)
  rw [hp.length_eq, ints_len]
theorem rel_cnt {c : GConfig} {m : Nat} {ys : List Int} (hok : okCfg c) (h : Rel c m ys) : ((cntB m 256 : Nat) : Int) = ((ys.length : Nat) : Int) := by
  rw [rel_sel h, (sel_facts hok (rel_small h)).1]
theorem rel_le {c : GConfig} {m : Nat} {ys : List Int} (hok : okCfg c) (h : Rel c m ys) : ys.length ≤ 255 := by
  rw [rel_sel h]
  have := sel_le m true c.N.toNat
  unfold okCfg at hok
  omega
theorem rel_add {c : GConfig} {m : Nat} {ys : List Int} {x : Int} (h : Rel c m ys) (hi : inN c x) (hb : ¬ m.testBit x.toNat = true) : Rel c (qAdd c m x) (ys ++ [x]) := by
  have hn : ¬ x ∈ ys := fun q => hb ((h.2.2 x hi.1).2 q)
  refine ⟨?_, fun y hy => ?_, fun y h0 => ?_⟩
  · rw [List.nodup_append]
    exact ⟨h.1, by simp, fun a ha b hb e => hn (by rw [List.mem_singleton.1 hb] at e; rwa [← e])⟩
  · rcases List.mem_append.1 hy with q | q
    · exact h.2.1 y q
    · rw [List.mem_singleton.1 q]; exact hi
  · rw [qAdd_bit, List.mem_append, List.mem_singleton, h.2.2 y h0]
    have := hi.1
    constructor
    · rintro (q | ⟨_, q⟩)
      · exact .inl q
      · exact .inr (by omega)
    · rintro (q | q)
      · exact .inl q
      · exact .inr ⟨hi, by omega⟩
theorem rel_same {c : GConfig} {m : Nat} {ys : List Int} {x : Int} (h : Rel c m ys) (hb : ¬ (inN c x ∧ ¬ m.testBit x.toNat = true)) : Rel c (qAdd c m x) ys := by
  by_cases hi : inN c x
  · rw [qAdd_same hi (Classical.byContradiction fun q => hb ⟨hi, q⟩)]; exact h
  · unfold qAdd; rw [if_neg hi]; exact h
theorem rel_and {c : GConfig} {m o : Nat} {ys : List Int} (h : Rel c m ys) : Rel c (m &&& o) (ys.filter fun y => o.testBit y.toNat) := by
  refine ⟨h.1.filter _, fun y hy => h.2.1 y (List.mem_filter.1 hy).1, fun y h0 => ?_⟩
  rw [Nat.testBit_and, Bool.and_eq_true, h.2.2 y h0, List.mem_filter]
theorem sel_stp {m k : Nat} {b : Bool} {l : List Nat} (h : l = sel m b k) : (m.testBit k = b → l ++ [k] = sel m b (k + 1)) ∧ (¬ m.testBit k = b → l = sel m b (k + 1)) := by
  subst h
  exact ⟨fun q => (sel_hit q).symm, fun q => (sel_miss q).symm⟩
theorem fil_stp {P : Int → Bool} {ys zs : List Int} {k : Nat} (hk : k < ys.length) (h : zs = (ys.take k).filter P) : (P ys[k]! = true → zs ++ [ys[k]!] = (ys.take (k + 1)).filter P) ∧ (¬ P ys[k]! = true → zs = (ys.take (k + 1)).filter P) := by
  subst h
  rw [List.take_add_one, get_bang hk, List.filter_append]
  constructor
  · intro q
    rw [show (some ys[k]!).toList.filter P = [ys[k]!] from by simp only [Option.toList, List.filter, q]]
  · intro q
    rw [show (some ys[k]!).toList.filter P = [] from by simp only [Option.toList, List.filter, Bool.eq_false_iff.2 q], List.append_nil]

theorem r_Has_nil (w : World) (x : Int) :
    Calls Try.prog 90 #[.pointer none, .int .i64 x] w (fun r_ w' => r_ = .returned (.bool false) ∧ Fram Non w w') := by
  refine calls_of Try.func90 rfl 22 rfl (by simp) ?_
  have hp0 := Hp.init w
  have he0 : List.map (env0 [.pointer none, .int .i64 x]) [0, 1] = [.pointer none, .int .i64 x] := by kernel_rfl
  obtain ⟨b0, he0⟩ := toMk he0
  rw [he0]
  clear he0
  refine WP.seq ?_
  refine WP.pure {} [] [0, 1] [.pointer none, .int .i64 x] .nil (by kernel_rfl) (fun b1 => ?_)
  refine thn_n ?_
  refine WP.seq ?_
  refine WP.seq ?_
  refine WP.pure {} [] [0, 1, 8] [.pointer none, .int .i64 x, .bool true] .nil (by kernel_rfl) (fun b2 => ?_)
  refine thn_n ?_
  refine WP.condT rfl ?_
  refine WP.seq ?_
  refine WP.pure {} [] [4] [.bool false] .nil (by kernel_rfl) (fun b3 => ?_)
  refine thn_n ?_
  refine WP.ret ?_
  refine thn_r ?_
  refine bodyQ.of _ rfl [.bool false] ⟨rfl, trivial⟩ ?_
  exact ⟨rfl, hp0.fr⟩

theorem r_Add_nil (w : World) (x : Int) :
    Calls Try.prog 89 #[.pointer none, .int .i64 x] w (fun r_ w' => r_ = .returned (.tuple #[.bool false, .int .i64 0]) ∧ Fram Non w w') := by
  refine calls_of Try.func89 rfl 32 rfl (by simp) ?_
  have hp0 := Hp.init w
  have he0 : List.map (env0 [.pointer none, .int .i64 x]) [0, 1] = [.pointer none, .int .i64 x] := by kernel_rfl
  obtain ⟨b0, he0⟩ := toMk he0
  rw [he0]
  clear he0
  refine WP.seq ?_
  refine WP.pure {} [] [0, 1] [.pointer none, .int .i64 x] .nil (by kernel_rfl) (fun b1 => ?_)
  refine thn_n ?_
  refine WP.seq ?_
  refine WP.seq ?_
  refine WP.pure {} [] [0, 1, 7] [.pointer none, .int .i64 x, .bool true] .nil (by kernel_rfl) (fun b2 => ?_)
  refine thn_n ?_
  refine WP.condT rfl ?_
  refine WP.seq ?_
  refine WP.pure {} [] [4, 5] [.bool false, .int .i64 0] .nil (by kernel_rfl) (fun b3 => ?_)
  refine thn_n ?_
  refine WP.ret ?_
  refine thn_r ?_
  refine bodyQ.of _ rfl [.bool false, .int .i64 0] ⟨rfl, rfl, trivial⟩ ?_
  exact ⟨rfl, hp0.fr⟩

theorem r_Len_nil (w : World) :
    Calls Try.prog 94 #[.pointer none] w (fun r_ w' => r_ = .returned (.int .i64 0) ∧ Fram Non w w') := by
  refine calls_of Try.func94 rfl 10 rfl (by simp) ?_
  have hp0 := Hp.init w
  have he0 : List.map (env0 [.pointer none]) [0] = [.pointer none] := by kernel_rfl
  obtain ⟨b0, he0⟩ := toMk he0
  rw [he0]
  clear he0
  refine WP.seq ?_
  refine WP.pure {} [] [0] [.pointer none] .nil (by kernel_rfl) (fun b1 => ?_)
  refine thn_n ?_
  refine WP.seq ?_
  refine WP.seq ?_
  refine WP.pure {} [] [0, 4] [.pointer none, .bool true] .nil (by kernel_rfl) (fun b2 => ?_)
  refine thn_n ?_
  refine WP.condT rfl ?_
  refine WP.seq ?_
  refine WP.pure {} [] [2] [.int .i64 0] .nil (by kernel_rfl) (fun b3 => ?_)
  refine thn_n ?_
  refine WP.ret ?_
  refine thn_r ?_
  refine bodyQ.of _ rfl [.int .i64 0] ⟨rfl, trivial⟩ ?_
  exact ⟨rfl, hp0.fr⟩

theorem r_Met_nil (w : World) :
    Calls Try.prog 95 #[.pointer none] w (fun r_ w' => r_ = .returned (.bool false) ∧ Fram Non w w') := by
  refine calls_of Try.func95 rfl 22 rfl (by simp) ?_
  have hp0 := Hp.init w
  have he0 : List.map (env0 [.pointer none]) [0] = [.pointer none] := by kernel_rfl
  obtain ⟨b0, he0⟩ := toMk he0
  rw [he0]
  clear he0
  refine WP.seq ?_
  refine WP.pure {} [] [0] [.pointer none] .nil (by kernel_rfl) (fun b1 => ?_)
  refine thn_n ?_
  refine WP.seq ?_
  refine WP.seq ?_
  refine WP.pure {} [] [0, 6] [.pointer none, .bool true] .nil (by kernel_rfl) (fun b2 => ?_)
  refine thn_n ?_
  refine WP.condT rfl ?_
  refine WP.seq ?_
  refine WP.pure {} [] [2] [.bool false] .nil (by kernel_rfl) (fun b3 => ?_)
  refine thn_n ?_
  refine WP.ret ?_
  refine thn_r ?_
  refine bodyQ.of _ rfl [.bool false] ⟨rfl, trivial⟩ ?_
  exact ⟨rfl, hp0.fr⟩

theorem r_Copy_nil (w : World) :
    Calls Try.prog 93 #[.pointer none] w (fun r_ w' => r_ = .returned (.pointer none) ∧ Fram Non w w') := by
  refine calls_of Try.func93 rfl 25 rfl (by simp) ?_
  have hp0 := Hp.init w
  have he0 : List.map (env0 [.pointer none]) [0] = [.pointer none] := by kernel_rfl
  obtain ⟨b0, he0⟩ := toMk he0
  rw [he0]
  clear he0
  refine WP.seq ?_
  refine WP.pure {} [] [0] [.pointer none] .nil (by kernel_rfl) (fun b1 => ?_)
  refine thn_n ?_
  refine WP.seq ?_
  refine WP.seq ?_
  refine WP.pure {} [] [0, 5] [.pointer none, .bool true] .nil (by kernel_rfl) (fun b2 => ?_)
  refine thn_n ?_
  refine WP.condT rfl ?_
  refine WP.seq ?_
  refine WP.pure {} [] [2] [.pointer none] .nil (by kernel_rfl) (fun b3 => ?_)
  refine thn_n ?_
  refine WP.ret ?_
  refine thn_r ?_
  refine bodyQ.of _ rfl [.pointer none] ⟨rfl, trivial⟩ ?_
  exact ⟨rfl, hp0.fr⟩

theorem r_those_nil (w : World) (inn : Bool) :
    Calls Try.prog 119 #[.pointer none, .bool inn] w (fun r_ w' => r_ = .returned (.slice none 0 0) ∧ Fram Non w w') := by
  refine calls_of Try.func119 rfl 29 rfl (by simp) ?_
  have hp0 := Hp.init w
  have he0 : List.map (env0 [.pointer none, .bool inn]) [0, 1] = [.pointer none, .bool inn] := by kernel_rfl
  obtain ⟨b0, he0⟩ := toMk he0
  rw [he0]
  clear he0
  refine WP.seq ?_
  refine WP.pure {} [] [0, 1] [.pointer none, .bool inn] .nil (by kernel_rfl) (fun b1 => ?_)
  refine thn_n ?_
  refine WP.seq ?_
  refine WP.pure {} [] [0, 1, 5] [.pointer none, .bool inn, .slice none 0 0] .nil (by kernel_rfl) (fun b2 => ?_)
  refine thn_n ?_
  refine WP.seq ?_
  refine WP.seq ?_
  refine WP.pure {} [] [0, 1, 5, 8] [.pointer none, .bool inn, .slice none 0 0, .bool true] .nil (by kernel_rfl) (fun b3 => ?_)
  refine thn_n ?_
  refine WP.condT rfl ?_
  refine WP.seq ?_
  refine WP.pure {} [] [4] [.slice none 0 0] .nil (by kernel_rfl) (fun b4 => ?_)
  refine thn_n ?_
  refine WP.ret ?_
  refine thn_r ?_
  refine bodyQ.of _ rfl [.slice none 0 0] ⟨rfl, trivial⟩ ?_
  exact ⟨rfl, hp0.fr⟩

theorem r_List_nil (w : World) :
    Calls Try.prog 96 #[.pointer none] w (fun r_ w' => r_ = .returned (.slice none 0 0) ∧ Fram Non w w') := by
  refine calls_of Try.func96 rfl 5 rfl (by simp) ?_
  have hp0 := Hp.init w
  have he0 : List.map (env0 [.pointer none]) [0] = [.pointer none] := by kernel_rfl
  obtain ⟨b0, he0⟩ := toMk he0
  rw [he0]
  clear he0
  refine WP.seq ?_
  refine WP.pure {} [] [0] [.pointer none] .nil (by kernel_rfl) (fun b1 => ?_)
  refine thn_n ?_
  refine WP.seq ?_
  refine WP.region _ rfl (by kernel_rfl) ?_
  refine OPS.batch 1 {} [] [3] [.pointer none] .nil (by kernel_rfl) (fun b2 => ?_)
  refine OPS.cons (opStep.call (some 4) [.pointer none, .bool true] (by kernel_rfl) (r_those_nil _ true) ?_)
  rintro _ w5 ⟨rfl, hf6⟩
  refine ⟨_, rfl, ?_⟩
  have hp7 := hp0.step hf6
  refine OPS.batch 1 {} [] [2] [.slice none 0 0] .nil (by kernel_rfl) (fun b8 => ?_)
  refine OPS.nil ?_
  refine thn_n ?_
  refine WP.ret ?_
  refine bodyQ.of _ rfl [.slice none 0 0] ⟨rfl, trivial⟩ ?_
  exact ⟨rfl, hp7.fr⟩

theorem r_Rest_nil (w : World) :
    Calls Try.prog 97 #[.pointer none] w (fun r_ w' => r_ = .returned (.slice none 0 0) ∧ Fram Non w w') := by
  refine calls_of Try.func97 rfl 5 rfl (by simp) ?_
  have hp0 := Hp.init w
  have he0 : List.map (env0 [.pointer none]) [0] = [.pointer none] := by kernel_rfl
  obtain ⟨b0, he0⟩ := toMk he0
  rw [he0]
  clear he0
  refine WP.seq ?_
  refine WP.pure {} [] [0] [.pointer none] .nil (by kernel_rfl) (fun b1 => ?_)
  refine thn_n ?_
  refine WP.seq ?_
  refine WP.region _ rfl (by kernel_rfl) ?_
  refine OPS.batch 1 {} [] [3] [.pointer none] .nil (by kernel_rfl) (fun b2 => ?_)
  refine OPS.cons (opStep.call (some 4) [.pointer none, .bool false] (by kernel_rfl) (r_those_nil _ false) ?_)
  rintro _ w5 ⟨rfl, hf6⟩
  refine ⟨_, rfl, ?_⟩
  have hp7 := hp0.step hf6
  refine OPS.batch 1 {} [] [2] [.slice none 0 0] .nil (by kernel_rfl) (fun b8 => ?_)
  refine OPS.nil ?_
  refine thn_n ?_
  refine WP.ret ?_
  refine bodyQ.of _ rfl [.slice none 0 0] ⟨rfl, trivial⟩ ?_
  exact ⟨rfl, hp7.fr⟩

theorem r_Has (w0 : World) (L : List Res) (q : Nat) (c : GConfig) (m : Nat) (ys : List Int) (a : Option Addr) (n cp : Nat) (w : World) (hok : okCfg c) (hrel : Rel c m ys) (x : Int) (hp0 : Hp w0 Non (Res.row q [.int .i64 c.N, .int .i64 c.K, .int .i64 c.Delta, .slice a n cp] 163 :: Res.own 3 1 (.slice a n cp) n (List.flatMap (fun (y : Int) => [Go.Value.int .i64 y]) ys) :: L) w) :
    Calls Try.prog 90 #[.pointer (some ⟨q, 0, none⟩), .int .i64 x] w (fun r_ w' => ∃ f_, r_ = .returned (.bool f_) ∧ Bp f_ (inN c x ∧ m.testBit x.toNat = true) ∧ Hp w0 Non (Res.row q [.int .i64 c.N, .int .i64 c.K, .int .i64 c.Delta, .slice a n cp] 163 :: Res.own 3 1 (.slice a n cp) n (List.flatMap (fun (y : Int) => [Go.Value.int .i64 y]) ys) :: L) w') := by
  have hok1 := hok
  unfold okCfg at hok1
  have hyl := rel_le hok hrel
  have hyn := own_flat (sz := 1) (fun _ => rfl) (by decide) hp0.get1
  have hyc := rel_cnt hok hrel
  refine calls_of Try.func90 rfl 22 rfl (by simp) ?_
  have he0 : List.map (env0 [.pointer (some ⟨q, 0, none⟩), .int .i64 x]) [0, 1] = [.pointer (some ⟨q, 0, none⟩), .int .i64 x] := by kernel_rfl
  obtain ⟨b0, he0⟩ := toMk he0
  rw [he0]
  clear he0
  refine WP.seq ?_
  refine WP.pure {} [] [0, 1] [.pointer (some ⟨q, 0, none⟩), .int .i64 x] .nil (by kernel_rfl) (fun b1 => ?_)
  refine thn_n ?_
  refine WP.seq ?_
  refine WP.seq ?_
  refine WP.pure {} [] [0, 1, 8] [.pointer (some ⟨q, 0, none⟩), .int .i64 x, .bool false] .nil (by kernel_rfl) (fun b2 => ?_)
  refine thn_n ?_
  refine WP.condF rfl ?_
  refine WP.skip ?_
  refine thn_n ?_
  refine WP.seq ?_
  refine WP.seq ?_
  refine WP.pure {} [.slice a n cp] [1, 12, 13, 14] [.int .i64 x, .slice a n cp, .int .i64 ((n : Nat) : Int), .int .i64 0] (.cons (Ld.row1 (P := Try.prog) (t := 36) (o := 3) (v := .slice a n cp) hp0.get0 (by kernel_rfl)) .nil) (by kernel_rfl) (fun b3 => ?_)
  refine thn_n ?_
  refine WP.block ?_
  refine WP.loop (fun mz_ e4 w5 => ∃ (k : Nat), mz_ = ys.length - k ∧ (k ≤ ys.length ∧ ∀ j, j < k → ¬ ys[j]! = x) ∧ List.map e4 [1, 12, 13, 14] = [.int .i64 x, .slice a n cp, .int .i64 ((n : Nat) : Int), .int .i64 (k : Int)] ∧ Hp w0 Non (Res.row q [.int .i64 c.N, .int .i64 c.K, .int .i64 c.Delta, .slice a n cp] 163 :: Res.own 3 1 (.slice a n cp) n (List.flatMap (fun (y : Int) => [Go.Value.int .i64 y]) ys) :: L) w5) (ys.length - (0)) ⟨0, rfl, ⟨by omega, fun j hj => by omega⟩, by kernel_rfl, hp0⟩ ?_
  rintro _ e4 w5 ⟨k, rfl, hI7, hE8, hp6⟩
  obtain ⟨b9, rfl⟩ := toMk hE8
  clear hE8
  obtain ⟨k1, k2⟩ := hI7
  refine WP.seq ?_
  refine WP.pure {} [] [1, 12, 13, 14, 15] [.int .i64 x, .slice a n cp, .int .i64 ((n : Nat) : Int), .int .i64 (k : Int), .bool (decide ((k : Int) < ((n : Nat) : Int)))] .nil (by kernel_rfl) (fun b10 => ?_)
  refine thn_n ?_
  refine WP.seq ?_
  refine WP.test (p := (k : Int) < ((n : Nat) : Int)) rfl Bp.dec (fun h11 => ?_) (fun h11 => ?_)
  · refine WP.skip ?_
    refine thn_n ?_
    refine WP.seq ?_
    refine WP.block ?_
    refine WP.seq ?_
    have := own_flat (sz := 1) (fun _ => rfl) (by decide) hp6.get1
    have hy13 : (ys)[k]? = some ys[k]! := get_bang (by first | (omega) | (simp only [List.length_append, List.length_cons, List.length_nil]; omega) | (simp only [List.length_take, List.length_append, List.length_cons, List.length_nil]; omega))
    refine WP.pure {} [.int .i64 (ys[k]!)] [1, 6, 12, 13, 14] [.int .i64 x, .int .i64 (ys[k]!), .slice a n cp, .int .i64 ((n : Nat) : Int), .int .i64 (k : Int)] (.cons (show InB ((k : Int)) (n) from ⟨by omega, by omega⟩) (.cons ((SlR.own (hp6.get1)).some (by omega)) (.cons (Ld.add0 (Ld.el1 (P := Try.prog) (t := 3) (SlR.own (hp6.get1)).rd 1 (fun _ => rfl) hy13 (o := 0) (v := .int .i64 (ys[k]!)) (by kernel_rfl))) .nil))) (by kernel_rfl) (fun b14 => ?_)
    refine thn_n ?_
    refine WP.seq ?_
    refine WP.pure {} [] [1, 12, 13, 14, 20] [.int .i64 x, .slice a n cp, .int .i64 ((n : Nat) : Int), .int .i64 (k : Int), .bool (decide ((ys[k]!) = x))] .nil (by kernel_rfl) (fun b15 => ?_)
    refine thn_n ?_
    refine WP.test (p := (ys[k]!) = x) rfl Bp.dec (fun h16 => ?_) (fun h16 => ?_)
    · refine WP.seq ?_
      refine WP.pure {} [] [4] [.bool true] .nil (by kernel_rfl) (fun b17 => ?_)
      refine thn_n ?_
      refine WP.ret ?_
      refine blk_r ?_
      refine thn_r ?_
      refine thn_r ?_
      refine blk_r ?_
      refine thn_r ?_
      refine bodyQ.of _ rfl [.bool true] ⟨rfl, trivial⟩ ?_
      exact ⟨_, rfl, Bp.of Bp.t (by exact ⟨fun _ => rel_hit hrel (List.mem_of_getElem? (get_bang (i := k) (by omega))) h16, fun _ => trivial⟩), hp6⟩
    · refine WP.skip ?_
      refine blk_n ?_
      refine thn_n ?_
      refine WP.pure {} [] [1, 12, 13, 14] [.int .i64 x, .slice a n cp, .int .i64 ((n : Nat) : Int), .int .i64 ((k : Int) + 1)] (.cons (show Rng .i64 ((k : Int) + 1) from Rng.i64 (by omega)) .nil) (by kernel_rfl) (fun b18 => ?_)
      refine thn_n ?_
      exact ⟨ys.length - (k + 1), (by omega), k + 1, rfl, ⟨by omega, fun j hj => by rcases Nat.lt_or_ge j k with z | z; exact k2 j z; (obtain rfl : j = k := by omega); exact h16⟩, by kernel_rfl, hp6⟩
  · refine WP.exit ?_
    refine thn_x ?_
    refine thn_x ?_
    refine blk_hit ?_
    refine thn_n ?_
    refine WP.seq ?_
    refine WP.pure {} [] [4] [.bool false] .nil (by kernel_rfl) (fun b19 => ?_)
    refine thn_n ?_
    refine WP.ret ?_
    refine bodyQ.of _ rfl [.bool false] ⟨rfl, trivial⟩ ?_
    exact ⟨_, rfl, Bp.of Bp.f (by exact ⟨fun z => z.elim, fun z => rel_miss hrel (not_mem_of fun j hj => k2 j (by omega)) z⟩), hp6⟩

theorem r_Len (w0 : World) (L : List Res) (q : Nat) (c : GConfig) (m : Nat) (ys : List Int) (a : Option Addr) (n cp : Nat) (w : World) (hok : okCfg c) (hrel : Rel c m ys) (hp0 : Hp w0 Non (Res.row q [.int .i64 c.N, .int .i64 c.K, .int .i64 c.Delta, .slice a n cp] 163 :: Res.own 3 1 (.slice a n cp) n (List.flatMap (fun (y : Int) => [Go.Value.int .i64 y]) ys) :: L) w) :
    Calls Try.prog 94 #[.pointer (some ⟨q, 0, none⟩)] w (fun r_ w' => r_ = .returned (.int .i64 ((cntB m 256 : Nat) : Int)) ∧ Hp w0 Non (Res.row q [.int .i64 c.N, .int .i64 c.K, .int .i64 c.Delta, .slice a n cp] 163 :: Res.own 3 1 (.slice a n cp) n (List.flatMap (fun (y : Int) => [Go.Value.int .i64 y]) ys) :: L) w') := by
  have hok1 := hok
  unfold okCfg at hok1
  have hyl := rel_le hok hrel
  have hyn := own_flat (sz := 1) (fun _ => rfl) (by decide) hp0.get1
  have hyc := rel_cnt hok hrel
  refine calls_of Try.func94 rfl 10 rfl (by simp) ?_
  have he0 : List.map (env0 [.pointer (some ⟨q, 0, none⟩)]) [0] = [.pointer (some ⟨q, 0, none⟩)] := by kernel_rfl
  obtain ⟨b0, he0⟩ := toMk he0
  rw [he0]
  clear he0
  refine WP.seq ?_
  refine WP.pure {} [] [0] [.pointer (some ⟨q, 0, none⟩)] .nil (by kernel_rfl) (fun b1 => ?_)
  refine thn_n ?_
  refine WP.seq ?_
  refine WP.seq ?_
  refine WP.pure {} [] [0, 4] [.pointer (some ⟨q, 0, none⟩), .bool false] .nil (by kernel_rfl) (fun b2 => ?_)
  refine thn_n ?_
  refine WP.condF rfl ?_
  refine WP.skip ?_
  refine thn_n ?_
  refine WP.seq ?_
  refine WP.pure {} [.slice a n cp] [2] [.int .i64 ((n : Nat) : Int)] (.cons (Ld.row1 (P := Try.prog) (t := 36) (o := 3) (v := .slice a n cp) hp0.get0 (by kernel_rfl)) .nil) (by kernel_rfl) (fun b3 => ?_)
  refine thn_n ?_
  refine WP.ret ?_
  refine bodyQ.of _ rfl [.int .i64 ((n : Nat) : Int)] ⟨rfl, trivial⟩ ?_
  exact ⟨by simp only [pack]; rw [hyc, show ys.length = n from by omega], hp0⟩

theorem r_Met (w0 : World) (L : List Res) (q : Nat) (c : GConfig) (m : Nat) (ys : List Int) (a : Option Addr) (n cp : Nat) (w : World) (hok : okCfg c) (hrel : Rel c m ys) (hp0 : Hp w0 Non (Res.row q [.int .i64 c.N, .int .i64 c.K, .int .i64 c.Delta, .slice a n cp] 163 :: Res.own 3 1 (.slice a n cp) n (List.flatMap (fun (y : Int) => [Go.Value.int .i64 y]) ys) :: L) w) :
    Calls Try.prog 95 #[.pointer (some ⟨q, 0, none⟩)] w (fun r_ w' => ∃ f_, r_ = .returned (.bool f_) ∧ Bp f_ (qSize c ≤ ((cntB m 256 : Nat) : Int)) ∧ Hp w0 Non (Res.row q [.int .i64 c.N, .int .i64 c.K, .int .i64 c.Delta, .slice a n cp] 163 :: Res.own 3 1 (.slice a n cp) n (List.flatMap (fun (y : Int) => [Go.Value.int .i64 y]) ys) :: L) w') := by
  have hok1 := hok
  unfold okCfg at hok1
  have hyl := rel_le hok hrel
  have hyn := own_flat (sz := 1) (fun _ => rfl) (by decide) hp0.get1
  have hyc := rel_cnt hok hrel
  refine calls_of Try.func95 rfl 22 rfl (by simp) ?_
  have he0 : List.map (env0 [.pointer (some ⟨q, 0, none⟩)]) [0] = [.pointer (some ⟨q, 0, none⟩)] := by kernel_rfl
  obtain ⟨b0, he0⟩ := toMk he0
  rw [he0]
  clear he0
  refine WP.seq ?_
  refine WP.pure {} [] [0] [.pointer (some ⟨q, 0, none⟩)] .nil (by kernel_rfl) (fun b1 => ?_)
  refine thn_n ?_
  refine WP.seq ?_
  refine WP.seq ?_
  refine WP.pure {} [] [0, 6] [.pointer (some ⟨q, 0, none⟩), .bool false] .nil (by kernel_rfl) (fun b2 => ?_)
  refine thn_n ?_
  refine WP.condF rfl ?_
  refine WP.skip ?_
  refine thn_n ?_
  refine WP.seq ?_
  refine WP.region _ rfl (by kernel_rfl) ?_
  refine OPS.batch 4 {} [.agg #[.int .i64 c.N, .int .i64 c.K, .int .i64 c.Delta]] [0, 11] [.pointer (some ⟨q, 0, none⟩), .agg #[.int .i64 c.N, .int .i64 c.K, .int .i64 c.Delta]] (.cons (show Ld Try.prog w 60 ⟨q, 0, none⟩ (.agg #[.int .i64 c.N, .int .i64 c.K, .int .i64 c.Delta]) from Ld.rowN (cs := [.int .i64 c.N, .int .i64 c.K, .int .i64 c.Delta]) hp0.get0 (by kernel_rfl)) .nil) (by kernel_rfl) (fun b3 => ?_)
  refine OPS.cons (opStep.call (some 12) [.agg #[.int .i64 c.N, .int .i64 c.K, .int .i64 c.Delta]] (by kernel_rfl) (r_Size c _) ?_)
  rintro _ w6 ⟨rfl, hf7⟩
  refine ⟨_, rfl, ?_⟩
  have hp8 := hp0.step hf7
  refine OPS.batch 5 {} [] [0, 3] [.pointer (some ⟨q, 0, none⟩), .int .i64 (qSize c)] .nil (by kernel_rfl) (fun b9 => ?_)
  refine OPS.nil ?_
  refine thn_n ?_
  refine WP.seq ?_
  refine WP.pure {} [.slice a n cp] [2] [.bool (decide ((qSize c) ≤ ((n : Nat) : Int)))] (.cons (Ld.row1 (P := Try.prog) (t := 36) (o := 3) (v := .slice a n cp) hp8.get0 (by kernel_rfl)) .nil) (by kernel_rfl) (fun b10 => ?_)
  refine thn_n ?_
  refine WP.ret ?_
  refine bodyQ.of _ rfl [.bool (decide ((qSize c) ≤ ((n : Nat) : Int)))] ⟨rfl, trivial⟩ ?_
  exact ⟨_, rfl, Bp.of Bp.dec (by rw [hyc]; omega), hp8⟩

theorem sel_dec {c : GConfig} {m k : Nat} {inn : Bool} (hik : (k : Int) < c.N → inN c (k : Int)) (hk : (k : Int) < c.N) (h : (inN c (k : Int) ∧ m.testBit ((k : Int)).toNat = true) ↔ inn = true) : m.testBit k = inn := by
  rw [show ((k : Int)).toNat = k from by omega] at h
  have h2 := hik hk
  rw [Bool.eq_iff_iff]
  exact ⟨fun z => h.1 ⟨h2, z⟩, fun z => (h.2 z).2⟩
theorem sel_dec2 {c : GConfig} {m k : Nat} {inn : Bool} (hik : (k : Int) < c.N → inN c (k : Int)) (hk : (k : Int) < c.N) (h : m.testBit k = inn) : (inN c (k : Int) ∧ m.testBit ((k : Int)).toNat = true) ↔ inn = true := by
  rw [show ((k : Int)).toNat = k from by omega]
  subst h
  exact ⟨fun z => z.2, fun z => ⟨hik hk, z⟩⟩

theorem r_those (w0 : World) (L : List Res) (q : Nat) (c : GConfig) (m : Nat) (ys : List Int) (a : Option Addr) (n cp : Nat) (w : World) (hok : okCfg c) (hrel : Rel c m ys) (inn : Bool) (hp0 : Hp w0 Non (Res.row q [.int .i64 c.N, .int .i64 c.K, .int .i64 c.Delta, .slice a n cp] 163 :: Res.own 3 1 (.slice a n cp) n (List.flatMap (fun (y : Int) => [Go.Value.int .i64 y]) ys) :: L) w) :
    Calls Try.prog 119 #[.pointer (some ⟨q, 0, none⟩), .bool inn] w (fun r_ w' => ∃ ao co, r_ = .returned (.slice ao (sel m inn c.N.toNat).length co) ∧ Hp w0 Non (Res.own 3 1 (.slice ao (sel m inn c.N.toNat).length co) (sel m inn c.N.toNat).length (List.flatMap (fun (y : Nat) => [Go.Value.int .i64 (y : Int)]) (sel m inn c.N.toNat)) :: Res.row q [.int .i64 c.N, .int .i64 c.K, .int .i64 c.Delta, .slice a n cp] 163 :: Res.own 3 1 (.slice a n cp) n (List.flatMap (fun (y : Int) => [Go.Value.int .i64 y]) ys) :: L) w') := by
  have hok1 := hok
  unfold okCfg at hok1
  have hyl := rel_le hok hrel
  have hyn := own_flat (sz := 1) (fun _ => rfl) (by decide) hp0.get1
  have hyc := rel_cnt hok hrel
  refine calls_of Try.func119 rfl 29 rfl (by simp) ?_
  have he0 : List.map (env0 [.pointer (some ⟨q, 0, none⟩), .bool inn]) [0, 1] = [.pointer (some ⟨q, 0, none⟩), .bool inn] := by kernel_rfl
  obtain ⟨b0, he0⟩ := toMk he0
  rw [he0]
  clear he0
  refine WP.seq ?_
  refine WP.pure {} [] [0, 1] [.pointer (some ⟨q, 0, none⟩), .bool inn] .nil (by kernel_rfl) (fun b1 => ?_)
  refine thn_n ?_
  refine WP.seq ?_
  refine WP.pure {} [] [0, 1, 5] [.pointer (some ⟨q, 0, none⟩), .bool inn, .slice none 0 0] .nil (by kernel_rfl) (fun b2 => ?_)
  refine thn_n ?_
  refine WP.seq ?_
  refine WP.seq ?_
  refine WP.pure {} [] [0, 1, 5, 8] [.pointer (some ⟨q, 0, none⟩), .bool inn, .slice none 0 0, .bool false] .nil (by kernel_rfl) (fun b3 => ?_)
  refine thn_n ?_
  refine WP.condF rfl ?_
  refine WP.skip ?_
  refine thn_n ?_
  refine WP.seq ?_
  refine WP.seq ?_
  refine WP.pure {} [] [0, 1, 5, 6] [.pointer (some ⟨q, 0, none⟩), .bool inn, .slice none 0 0, .int .i64 0] .nil (by kernel_rfl) (fun b4 => ?_)
  refine thn_n ?_
  refine WP.block ?_
  have hp5 := (show Hp w0 Non (Res.own 3 1 (.slice none 0 0) 0 (List.flatMap (fun (y : Nat) => [Go.Value.int .i64 (y : Int)]) ([] : List Nat)) :: Res.row q [.int .i64 c.N, .int .i64 c.K, .int .i64 c.Delta, .slice a n cp] 163 :: Res.own 3 1 (.slice a n cp) n (List.flatMap (fun (y : Int) => [Go.Value.int .i64 y]) ys) :: L) w from hp0.nilOwn 3 1)
  refine WP.loop (fun mz_ e6 w7 => ∃ (k : Nat) (l : List Nat) (ao : Option Addr) (no : Nat) (co : Nat), mz_ = c.N.toNat - k ∧ ((k : Int) ≤ c.N ∧ l = sel m inn k) ∧ List.map e6 [0, 1, 5, 6] = [.pointer (some ⟨q, 0, none⟩), .bool inn, .slice ao no co, .int .i64 (k : Int)] ∧ Hp w0 Non (Res.own 3 1 (.slice ao no co) no (List.flatMap (fun (y : Nat) => [Go.Value.int .i64 (y : Int)]) l) :: Res.row q [.int .i64 c.N, .int .i64 c.K, .int .i64 c.Delta, .slice a n cp] 163 :: Res.own 3 1 (.slice a n cp) n (List.flatMap (fun (y : Int) => [Go.Value.int .i64 y]) ys) :: L) w7) (c.N.toNat - (0)) ⟨0, [], none, 0, 0, rfl, ⟨by omega, rfl⟩, by kernel_rfl, hp5⟩ ?_
  rintro _ e6 w7 ⟨k, l, ao, no, co, rfl, hI9, hE10, hp8⟩
  obtain ⟨b11, rfl⟩ := toMk hE10
  clear hE10
  obtain ⟨pa, pb⟩ := hI9
  have pe := own_flat (sz := 1) (fun _ => rfl) (by decide) hp8.get0
  have pl := sel_le m inn k
  rw [← pb] at pl
  have hik : (k : Int) < c.N → inN c (k : Int) := fun z => ⟨by omega, z⟩
  refine WP.seq ?_
  refine WP.seq ?_
  refine WP.pure {} [.int .i64 c.N] [0, 1, 5, 6, 16] [.pointer (some ⟨q, 0, none⟩), .bool inn, .slice ao no co, .int .i64 (k : Int), .bool (decide ((k : Int) < c.N))] (.cons (Ld.row1 (P := Try.prog) (t := 3) (o := 0) (v := .int .i64 c.N) hp8.get1 (by kernel_rfl)) .nil) (by kernel_rfl) (fun b12 => ?_)
  refine thn_n ?_
  refine WP.test (p := (k : Int) < c.N) rfl Bp.dec (fun h13 => ?_) (fun h13 => ?_)
  · refine WP.skip ?_
    refine thn_n ?_
    refine WP.seq ?_
    refine WP.block ?_
    refine WP.seq ?_
    refine WP.region _ rfl (by kernel_rfl) ?_
    refine OPS.batch 2 {} [] [0, 1, 5, 6, 19, 20] [.pointer (some ⟨q, 0, none⟩), .bool inn, .slice ao no co, .int .i64 (k : Int), .pointer (some ⟨q, 0, none⟩), .int .i64 (k : Int)] .nil (by kernel_rfl) (fun b14 => ?_)
    have hp17 := hp8.pull2
    have hp18 := hp17.pull2
    refine OPS.cons (opStep.call (some 21) [.pointer (some ⟨q, 0, none⟩), .int .i64 (k : Int)] (by kernel_rfl) (r_Has _ _ q c m ys a n cp _ hok hrel (k : Int) hp18) ?_)
    rintro _ w19 ⟨b22, rfl, hq21, hp20⟩
    refine ⟨_, rfl, ?_⟩
    refine OPS.batch 2 {} [] [0, 1, 5, 6, 23] [.pointer (some ⟨q, 0, none⟩), .bool inn, .slice ao no co, .int .i64 (k : Int), .bool (b22 == inn)] .nil (by kernel_rfl) (fun b23 => ?_)
    refine OPS.nil ?_
    refine thn_n ?_
    refine WP.test (p := ((inN c (k : Int) ∧ m.testBit ((k : Int)).toNat = true) ↔ (inn = true))) rfl (Bp.beq hq21 Bp.var) (fun h24 => ?_) (fun h24 => ?_)
    · refine WP.region _ rfl (by kernel_rfl) ?_
      refine OPS.batch 2 {} [] [0, 1, 6, 24, 25] [.pointer (some ⟨q, 0, none⟩), .bool inn, .int .i64 (k : Int), .slice ao no co, .int .i64 (k : Int)] .nil (by kernel_rfl) (fun b25 => ?_)
      refine OPS.cons (opStep.buildSlice (E := 3) hp20 [.int .i64 (k : Int)] (by kernel_rfl) (fun g28 w26 hp27 => ?_))
      refine OPS.cons (opStep.append3 [.int .i64 (k : Int)] hp27 8 (by kernel_rfl) rfl rfl rfl (SlR.row (n := 1) hp27.get0 rfl).rd (List.all_eq_true.1 (by kernel_rfl)) (by decide) (by omega) (by omega) (fun a31 c32 w33 hp34 hn35 => ?_))
      rw [(show List.flatMap (fun (y : Nat) => [Go.Value.int .i64 (y : Int)]) l ++ [.int .i64 (k : Int)] = List.flatMap (fun (y : Nat) => [Go.Value.int .i64 (y : Int)]) (l ++ [k]) from (List.flatMap_append (xs := l) (ys := [k])).symm)] at hp34
      refine OPS.batch 1 {} [] [0, 1, 5, 6] [.pointer (some ⟨q, 0, none⟩), .bool inn, .slice a31 (no + 1) c32, .int .i64 (k : Int)] .nil (by kernel_rfl) (fun b36 => ?_)
      refine OPS.nil ?_
      refine blk_n ?_
      refine thn_n ?_
      refine WP.pure {} [] [0, 1, 5, 6] [.pointer (some ⟨q, 0, none⟩), .bool inn, .slice a31 (no + 1) c32, .int .i64 ((k : Int) + 1)] (.cons (show Rng .i64 ((k : Int) + 1) from Rng.i64 (by omega)) .nil) (by kernel_rfl) (fun b37 => ?_)
      refine thn_n ?_
      exact ⟨c.N.toNat - (k + 1), (by omega), k + 1, l ++ [k], a31, no + 1, c32, rfl, ⟨by omega, (sel_stp pb).1 (by exact sel_dec hik (by omega) h24)⟩, by kernel_rfl, ((((hp34.pull2).pull2).pull3).sub (.cons_cons _ (.cons_cons _ (.cons_cons _ (.cons _ (.refl _))))))⟩
    · refine WP.skip ?_
      refine blk_n ?_
      refine thn_n ?_
      refine WP.pure {} [] [0, 1, 5, 6] [.pointer (some ⟨q, 0, none⟩), .bool inn, .slice ao no co, .int .i64 ((k : Int) + 1)] (.cons (show Rng .i64 ((k : Int) + 1) from Rng.i64 (by omega)) .nil) (by kernel_rfl) (fun b38 => ?_)
      refine thn_n ?_
      exact ⟨c.N.toNat - (k + 1), (by omega), k + 1, l, ao, no, co, rfl, ⟨by omega, (sel_stp pb).2 (by exact fun z => h24 (sel_dec2 hik (by omega) z))⟩, by kernel_rfl, ((((hp20.pull1).pull1).pull2).sub (.cons_cons _ (.cons_cons _ (.cons_cons _ (.refl _)))))⟩
  · refine WP.exit ?_
    refine thn_x ?_
    refine thn_x ?_
    refine blk_hit ?_
    refine thn_n ?_
    refine WP.seq ?_
    refine WP.pure {} [] [4] [.slice ao no co] .nil (by kernel_rfl) (fun b39 => ?_)
    refine thn_n ?_
    refine WP.ret ?_
    refine bodyQ.of _ rfl [.slice ao no co] ⟨rfl, trivial⟩ ?_
    have hkn : k = c.N.toNat := by omega
    rw [hkn] at pb
    obtain rfl : no = (sel m inn c.N.toNat).length := by rw [← pb]; omega
    subst pb
    exact ⟨_, _, rfl, hp8⟩

theorem r_List (w0 : World) (L : List Res) (q : Nat) (c : GConfig) (m : Nat) (ys : List Int) (a : Option Addr) (n cp : Nat) (w : World) (hok : okCfg c) (hrel : Rel c m ys) (hp0 : Hp w0 Non (Res.row q [.int .i64 c.N, .int .i64 c.K, .int .i64 c.Delta, .slice a n cp] 163 :: Res.own 3 1 (.slice a n cp) n (List.flatMap (fun (y : Int) => [Go.Value.int .i64 y]) ys) :: L) w) :
    Calls Try.prog 96 #[.pointer (some ⟨q, 0, none⟩)] w (fun r_ w' => ∃ ao co, r_ = .returned (.slice ao (sel m true c.N.toNat).length co) ∧ Hp w0 Non (Res.own 3 1 (.slice ao (sel m true c.N.toNat).length co) (sel m true c.N.toNat).length (List.flatMap (fun (y : Nat) => [Go.Value.int .i64 (y : Int)]) (sel m true c.N.toNat)) :: Res.row q [.int .i64 c.N, .int .i64 c.K, .int .i64 c.Delta, .slice a n cp] 163 :: Res.own 3 1 (.slice a n cp) n (List.flatMap (fun (y : Int) => [Go.Value.int .i64 y]) ys) :: L) w') := by
  have hok1 := hok
  unfold okCfg at hok1
  have hyl := rel_le hok hrel
  have hyn := own_flat (sz := 1) (fun _ => rfl) (by decide) hp0.get1
  have hyc := rel_cnt hok hrel
  refine calls_of Try.func96 rfl 5 rfl (by simp) ?_
  have he0 : List.map (env0 [.pointer (some ⟨q, 0, none⟩)]) [0] = [.pointer (some ⟨q, 0, none⟩)] := by kernel_rfl
  obtain ⟨b0, he0⟩ := toMk he0
  rw [he0]
  clear he0
  refine WP.seq ?_
  refine WP.pure {} [] [0] [.pointer (some ⟨q, 0, none⟩)] .nil (by kernel_rfl) (fun b1 => ?_)
  refine thn_n ?_
  refine WP.seq ?_
  refine WP.region _ rfl (by kernel_rfl) ?_
  refine OPS.batch 1 {} [] [3] [.pointer (some ⟨q, 0, none⟩)] .nil (by kernel_rfl) (fun b2 => ?_)
  have hp5 := hp0.pull1
  have hp6 := hp5.pull1
  refine OPS.cons (opStep.call (some 4) [.pointer (some ⟨q, 0, none⟩), .bool true] (by kernel_rfl) (r_those _ _ q c m ys a n cp _ hok hrel true hp6) ?_)
  rintro _ w7 ⟨ao9, co10, rfl, hp8⟩
  refine ⟨_, rfl, ?_⟩
  have := sel_le m true (c.N).toNat
  refine OPS.batch 1 {} [] [2] [.slice ao9 ((sel m true (c.N).toNat).length) co10] .nil (by kernel_rfl) (fun b11 => ?_)
  refine OPS.nil ?_
  refine thn_n ?_
  refine WP.ret ?_
  refine bodyQ.of _ rfl [.slice ao9 ((sel m true (c.N).toNat).length) co10] ⟨rfl, trivial⟩ ?_
  exact ⟨ao9, co10, rfl, hp8⟩

theorem r_Rest (w0 : World) (L : List Res) (q : Nat) (c : GConfig) (m : Nat) (ys : List Int) (a : Option Addr) (n cp : Nat) (w : World) (hok : okCfg c) (hrel : Rel c m ys) (hp0 : Hp w0 Non (Res.row q [.int .i64 c.N, .int .i64 c.K, .int .i64 c.Delta, .slice a n cp] 163 :: Res.own 3 1 (.slice a n cp) n (List.flatMap (fun (y : Int) => [Go.Value.int .i64 y]) ys) :: L) w) :
    Calls Try.prog 97 #[.pointer (some ⟨q, 0, none⟩)] w (fun r_ w' => ∃ ao co, r_ = .returned (.slice ao (sel m false c.N.toNat).length co) ∧ Hp w0 Non (Res.own 3 1 (.slice ao (sel m false c.N.toNat).length co) (sel m false c.N.toNat).length (List.flatMap (fun (y : Nat) => [Go.Value.int .i64 (y : Int)]) (sel m false c.N.toNat)) :: Res.row q [.int .i64 c.N, .int .i64 c.K, .int .i64 c.Delta, .slice a n cp] 163 :: Res.own 3 1 (.slice a n cp) n (List.flatMap (fun (y : Int) => [Go.Value.int .i64 y]) ys) :: L) w') := by
  have hok1 := hok
  unfold okCfg at hok1
  have hyl := rel_le hok hrel
  have hyn := own_flat (sz := 1) (fun _ => rfl) (by decide) hp0.get1
  have hyc := rel_cnt hok hrel
  refine calls_of Try.func97 rfl 5 rfl (by simp) ?_
  have he0 : List.map (env0 [.pointer (some ⟨q, 0, none⟩)]) [0] = [.pointer (some ⟨q, 0, none⟩)] := by kernel_rfl
  obtain ⟨b0, he0⟩ := toMk he0
  rw [he0]
  clear he0
  refine WP.seq ?_
  refine WP.pure {} [] [0] [.pointer (some ⟨q, 0, none⟩)] .nil (by kernel_rfl) (fun b1 => ?_)
  refine thn_n ?_
  refine WP.seq ?_
  refine WP.region _ rfl (by kernel_rfl) ?_
  refine OPS.batch 1 {} [] [3] [.pointer (some ⟨q, 0, none⟩)] .nil (by kernel_rfl) (fun b2 => ?_)
  have hp5 := hp0.pull1
  have hp6 := hp5.pull1
  refine OPS.cons (opStep.call (some 4) [.pointer (some ⟨q, 0, none⟩), .bool false] (by kernel_rfl) (r_those _ _ q c m ys a n cp _ hok hrel false hp6) ?_)
  rintro _ w7 ⟨ao9, co10, rfl, hp8⟩
  refine ⟨_, rfl, ?_⟩
  have := sel_le m false (c.N).toNat
  refine OPS.batch 1 {} [] [2] [.slice ao9 ((sel m false (c.N).toNat).length) co10] .nil (by kernel_rfl) (fun b11 => ?_)
  refine OPS.nil ?_
  refine thn_n ?_
  refine WP.ret ?_
  refine bodyQ.of _ rfl [.slice ao9 ((sel m false (c.N).toNat).length) co10] ⟨rfl, trivial⟩ ?_
  exact ⟨ao9, co10, rfl, hp8⟩

theorem r_Add (w0 : World) (L : List Res) (q : Nat) (c : GConfig) (m : Nat) (ys : List Int) (a : Option Addr) (n cp : Nat) (w : World) (hok : okCfg c) (hrel : Rel c m ys) (x : Int) (hp0 : Hp w0 Non (Res.row q [.int .i64 c.N, .int .i64 c.K, .int .i64 c.Delta, .slice a n cp] 163 :: Res.own 3 1 (.slice a n cp) n (List.flatMap (fun (y : Int) => [Go.Value.int .i64 y]) ys) :: L) w) :
    Calls Try.prog 89 #[.pointer (some ⟨q, 0, none⟩), .int .i64 x] w (fun r_ w' => ∃ (f_ : Bool) (ys' : List Int) (a' : Option Addr) (n' cp' : Nat), r_ = .returned (.tuple #[.bool f_, .int .i64 (qErr c x)]) ∧ Bp f_ (inN c x ∧ m.testBit x.toNat = false) ∧ Rel c (qAdd c m x) ys' ∧ Hp w0 Non (Res.row q [.int .i64 c.N, .int .i64 c.K, .int .i64 c.Delta, .slice a' n' cp'] 163 :: Res.own 3 1 (.slice a' n' cp') n' (List.flatMap (fun (y : Int) => [Go.Value.int .i64 y]) ys') :: L) w') := by
  have hok1 := hok
  unfold okCfg at hok1
  have hyl := rel_le hok hrel
  have hyn := own_flat (sz := 1) (fun _ => rfl) (by decide) hp0.get1
  have hyc := rel_cnt hok hrel
  refine calls_of Try.func89 rfl 32 rfl (by simp) ?_
  have he0 : List.map (env0 [.pointer (some ⟨q, 0, none⟩), .int .i64 x]) [0, 1] = [.pointer (some ⟨q, 0, none⟩), .int .i64 x] := by kernel_rfl
  obtain ⟨b0, he0⟩ := toMk he0
  rw [he0]
  clear he0
  refine WP.seq ?_
  refine WP.pure {} [] [0, 1] [.pointer (some ⟨q, 0, none⟩), .int .i64 x] .nil (by kernel_rfl) (fun b1 => ?_)
  refine thn_n ?_
  refine WP.seq ?_
  refine WP.seq ?_
  refine WP.pure {} [] [0, 1, 7] [.pointer (some ⟨q, 0, none⟩), .int .i64 x, .bool false] .nil (by kernel_rfl) (fun b2 => ?_)
  refine thn_n ?_
  refine WP.condF rfl ?_
  refine WP.skip ?_
  refine thn_n ?_
  refine WP.seq ?_
  refine WP.cut (fun e12 w13 => ∃ (x10 : Bool), (True) ∧ Bp x10 (((x < 0)) ∨ ((¬ (x < 0)) ∧ (c.N ≤ x))) ∧ List.map e12 [0, 1, 18] = [.pointer (some ⟨q, 0, none⟩), .int .i64 x, .bool x10] ∧ Hp w0 Non (Res.row q [.int .i64 c.N, .int .i64 c.K, .int .i64 c.Delta, .slice a n cp] 163 :: Res.own 3 1 (.slice a n cp) n (List.flatMap (fun (y : Int) => [Go.Value.int .i64 y]) ys) :: L) w13) ?_ ?_
  · refine WP.region _ rfl (by kernel_rfl) ?_
    refine OPS.batch 3 {} [] [0, 1, 10] [.pointer (some ⟨q, 0, none⟩), .int .i64 x, .bool (decide (x < 0))] .nil (by kernel_rfl) (fun b4 => ?_)
    by_cases h5 : x < 0
    · refine OPS.batch 0 {} [] [0, 1, 10] [.pointer (some ⟨q, 0, none⟩), .int .i64 x, .bool (decide (x < 0))] .nil (by kernel_rfl) (fun b6 => ?_)
      refine OPS.re [.pointer (some ⟨q, 0, none⟩), .int .i64 x, .bool true] (by rw [show (decide (x < 0)) = true from Bp.dec.tt h5]) ?_
      refine OPS.batch 8 { wraps := [18] } [] [0, 1, 18] [.pointer (some ⟨q, 0, none⟩), .int .i64 x, .bool true] .nil (by kernel_rfl) (fun b7 => ?_)
      refine OPS.nil ?_
      refine thn_n ?_
      exact ⟨true, trivial, Bp.of Bp.t (by first | (simp only [h5, iff_false, false_iff, iff_true, true_iff, Classical.not_not, and_true, true_and, and_false, false_and, or_true, true_or, or_false, false_or, not_true_eq_false, not_false_eq_true, and_self, or_self, iff_self]; done) | (simp [h5]; done) | simp_all), by kernel_rfl, hp0⟩
    · refine OPS.batch 0 {} [] [0, 1, 10] [.pointer (some ⟨q, 0, none⟩), .int .i64 x, .bool (decide (x < 0))] .nil (by kernel_rfl) (fun b8 => ?_)
      refine OPS.re [.pointer (some ⟨q, 0, none⟩), .int .i64 x, .bool false] (by rw [show (decide (x < 0)) = false from Bp.dec.ff h5]) ?_
      refine OPS.batch 8 { wraps := [18] } [.int .i64 c.N] [0, 1, 18] [.pointer (some ⟨q, 0, none⟩), .int .i64 x, .bool (decide (c.N ≤ x))] (.cons (Ld.row1 (P := Try.prog) (t := 3) (o := 0) (v := .int .i64 c.N) hp0.get0 (by kernel_rfl)) .nil) (by kernel_rfl) (fun b9 => ?_)
      refine OPS.nil ?_
      refine thn_n ?_
      exact ⟨decide (c.N ≤ x), trivial, Bp.of Bp.dec (by first | (simp only [h5, iff_false, false_iff, iff_true, true_iff, Classical.not_not, and_true, true_and, and_false, false_and, or_true, true_or, or_false, false_or, not_true_eq_false, not_false_eq_true, and_self, or_self, iff_self]; done) | (simp [h5]; done) | simp_all), by kernel_rfl, hp0⟩
  rintro e12 w13 ⟨x10, hd15, hb11, hE16, hp14⟩
  obtain ⟨b17, rfl⟩ := toMk hE16
  clear hE16
  clear hd15
  refine WP.test (p := ((x < 0)) ∨ ((¬ (x < 0)) ∧ (c.N ≤ x))) rfl hb11 (fun h18 => ?_) (fun h18 => ?_)
  · refine WP.seq ?_
    refine WP.pure {} [] [4, 5] [.bool false, .int .i64 51] .nil (by kernel_rfl) (fun b19 => ?_)
    refine thn_n ?_
    refine WP.ret ?_
    refine thn_r ?_
    refine bodyQ.of _ rfl [.bool false, .int .i64 51] ⟨rfl, rfl, trivial⟩ ?_
    have hin_ : ¬ inN c x := by unfold inN; omega
    exact ⟨_, ys, a, n, cp, by simp only [pack, qErr]; rw [if_neg hin_], Bp.of Bp.f (by simp [hin_]), rel_same hrel (fun z => hin_ z.1), hp14⟩
  · refine WP.skip ?_
    refine thn_n ?_
    refine WP.seq ?_
    refine WP.seq ?_
    refine WP.region _ rfl (by kernel_rfl) ?_
    refine OPS.batch 2 {} [] [0, 1, 19, 20] [.pointer (some ⟨q, 0, none⟩), .int .i64 x, .pointer (some ⟨q, 0, none⟩), .int .i64 x] .nil (by kernel_rfl) (fun b20 => ?_)
    have hp23 := hp14.pull1
    have hp24 := hp23.pull1
    refine OPS.cons (opStep.call (some 21) [.pointer (some ⟨q, 0, none⟩), .int .i64 x] (by kernel_rfl) (r_Has _ _ q c m ys a n cp _ hok hrel x hp24) ?_)
    rintro _ w25 ⟨b28, rfl, hq27, hp26⟩
    refine ⟨_, rfl, ?_⟩
    refine OPS.nil ?_
    refine thn_n ?_
    refine WP.test (p := inN c x ∧ m.testBit (x).toNat = true) rfl hq27 (fun h29 => ?_) (fun h29 => ?_)
    · refine WP.seq ?_
      refine WP.pure {} [] [4, 5] [.bool false, .int .i64 0] .nil (by kernel_rfl) (fun b30 => ?_)
      refine thn_n ?_
      refine WP.ret ?_
      refine thn_r ?_
      refine bodyQ.of _ rfl [.bool false, .int .i64 0] ⟨rfl, rfl, trivial⟩ ?_
      have hin_ : inN c x := by unfold inN; omega
      exact ⟨_, ys, a, n, cp, by simp only [pack, qErr]; rw [if_pos hin_], Bp.of Bp.f (by simp [h29.2]), rel_same hrel (fun z => z.2 h29.2), hp26⟩
    · refine WP.skip ?_
      refine thn_n ?_
      refine WP.seq ?_
      refine WP.region _ rfl (by kernel_rfl) ?_
      refine OPS.batch 6 {} [.slice a n cp] [22, 26, 27] [.pointer (some ⟨q, 0, none⟩), .slice a n cp, .int .i64 x] (.cons (Ld.row1 (P := Try.prog) (t := 36) (o := 3) (v := .slice a n cp) hp26.get0 (by kernel_rfl)) .nil) (by kernel_rfl) (fun b31 => ?_)
      refine OPS.cons (opStep.buildSlice (E := 3) hp26 [.int .i64 x] (by kernel_rfl) (fun g34 w32 hp33 => ?_))
      refine OPS.cons (opStep.append2 [.int .i64 x] hp33 8 (by kernel_rfl) rfl rfl rfl (SlR.row (n := 1) hp33.get0 rfl).rd (List.all_eq_true.1 (by kernel_rfl)) (by decide) (by omega) (by omega) (fun a37 c38 w39 hp40 hn41 => ?_))
      rw [(show List.flatMap (fun (y : Int) => [Go.Value.int .i64 y]) ys ++ [.int .i64 x] = List.flatMap (fun (y : Int) => [Go.Value.int .i64 y]) (ys ++ [x]) from (List.flatMap_append (xs := ys) (ys := [x])).symm)] at hp40
      refine OPS.batch 2 {} [] [29, 31] [.slice a37 (n + 1) c38, .pointer (some ⟨q, 3, none⟩)] .nil (by kernel_rfl) (fun b42 => ?_)
      refine OPS.cons (opStep.store1 hp40 rfl [.slice a37 (n + 1) c38] [.int .i64 c.N, .int .i64 c.K, .int .i64 c.Delta, .slice a37 (n + 1) c38] (by kernel_rfl) (fun w43 hp44 => ?_))
      refine OPS.nil ?_
      refine thn_n ?_
      refine WP.seq ?_
      refine WP.pure {} [] [4, 5] [.bool true, .int .i64 0] .nil (by kernel_rfl) (fun b45 => ?_)
      refine thn_n ?_
      refine WP.ret ?_
      refine bodyQ.of _ rfl [.bool true, .int .i64 0] ⟨rfl, rfl, trivial⟩ ?_
      have hin_ : inN c x := by unfold inN; omega
      have hnb_ : ¬ m.testBit x.toNat = true := fun z => h29 ⟨hin_, z⟩
      exact ⟨_, _, _, _, _, by simp only [pack, qErr]; rw [if_pos hin_], Bp.of Bp.t (by simp [hin_, hnb_]), rel_add hrel hin_ hnb_, (hp44.sub (.cons _ (.cons_cons _ (.cons_cons _ (.refl _)))))⟩

theorem r_New_no (c : GConfig) (w : World) (hok : ¬ okCfg c) :
    Calls Try.prog 87 #[GConfig.val c] w (fun r_ w' => r_ = .returned (.tuple #[.pointer none, .int .i64 40]) ∧ Fram Non w w') := by
  have hz := qChk_no hok
  refine calls_of Try.func87 rfl 10 rfl (by simp) ?_
  have hp0 := Hp.init w
  have he0 : List.map (env0 [GConfig.val c]) [0] = [GConfig.val c] := by kernel_rfl
  obtain ⟨b0, he0⟩ := toMk he0
  rw [he0]
  clear he0
  refine WP.seq ?_
  refine WP.region _ rfl (by kernel_rfl) ?_
  refine OPS.cons (opStep.box hp0 [.int .i64 c.N, .int .i64 c.K, .int .i64 c.Delta] (by kernel_rfl) (fun g3 w1 hp2 => ?_))
  refine OPS.batch 2 {} [] [1] [.pointer (some ⟨g3, 0, none⟩)] .nil (by kernel_rfl) (fun b4 => ?_)
  refine OPS.nil ?_
  refine thn_n ?_
  refine WP.seq ?_
  refine WP.seq ?_
  refine WP.region _ rfl (by kernel_rfl) ?_
  refine OPS.batch 1 {} [GConfig.val c] [1, 4] [.pointer (some ⟨g3, 0, none⟩), GConfig.val c] (.cons (show Ld Try.prog w1 60 ⟨g3, 0, none⟩ (GConfig.val c) from Ld.rowN (cs := [.int .i64 c.N, .int .i64 c.K, .int .i64 c.Delta]) hp2.get0 (by kernel_rfl)) .nil) (by kernel_rfl) (fun b5 => ?_)
  refine OPS.cons (opStep.call (some 5) [GConfig.val c] (by kernel_rfl) (r_Check c _) ?_)
  rintro _ w8 ⟨rfl, hf9⟩
  refine ⟨_, rfl, ?_⟩
  have hp10 := hp2.step hf9
  refine OPS.batch 1 {} [] [1, 6] [.pointer (some ⟨g3, 0, none⟩), .bool (decide (¬ ((qChk c) = 0)))] .nil (by kernel_rfl) (fun b11 => ?_)
  refine OPS.nil ?_
  refine thn_n ?_
  refine WP.test (p := ¬ ((qChk c) = 0)) rfl Bp.dec (fun h12 => ?_) (fun h12 => ?_)
  · refine WP.seq ?_
    refine WP.pure {} [] [2, 3] [.pointer none, .int .i64 40] .nil (by kernel_rfl) (fun b13 => ?_)
    refine thn_n ?_
    refine WP.ret ?_
    refine thn_r ?_
    refine bodyQ.of _ rfl [.pointer none, .int .i64 40] ⟨rfl, rfl, trivial⟩ ?_
    exact ⟨rfl, hp10.fr⟩
  · replace h12 := Classical.not_not.1 h12
    refine WP.skip ?_
    refine thn_n ?_
    refine WP.seq ?_
    refine WP.region _ rfl (by kernel_rfl) ?_
    refine OPS.batch 2 {} [GConfig.val c] [8] [.agg #[.int .i64 c.N, .int .i64 c.K, .int .i64 c.Delta, .slice none 0 0]] (.cons (show Ld Try.prog w8 60 ⟨g3, 0, none⟩ (GConfig.val c) from Ld.rowN (cs := [.int .i64 c.N, .int .i64 c.K, .int .i64 c.Delta]) hp10.get0 (by kernel_rfl)) .nil) (by kernel_rfl) (fun b14 => ?_)
    refine OPS.cons (opStep.box hp10 [.int .i64 c.N, .int .i64 c.K, .int .i64 c.Delta, .slice none 0 0] (by kernel_rfl) (fun g17 w15 hp16 => ?_))
    refine OPS.batch 2 {} [] [2, 3] [.pointer (some ⟨g17, 0, none⟩), .int .i64 0] .nil (by kernel_rfl) (fun b18 => ?_)
    refine OPS.nil ?_
    refine thn_n ?_
    refine WP.ret ?_
    refine bodyQ.of _ rfl [.pointer (some ⟨g17, 0, none⟩), .int .i64 0] ⟨rfl, rfl, trivial⟩ ?_
    exfalso
    rw [hz] at h12
    omega

theorem r_New (c : GConfig) (w : World) (hok : okCfg c) :
    Calls Try.prog 87 #[GConfig.val c] w (fun r_ w' => ∃ q, r_ = .returned (.tuple #[.pointer (some ⟨q, 0, none⟩), .int .i64 0]) ∧ Hp w Non [Res.row q [.int .i64 c.N, .int .i64 c.K, .int .i64 c.Delta, .slice none 0 0] 163, Res.own 3 1 (.slice none 0 0) 0 (List.flatMap (fun (y : Int) => [Go.Value.int .i64 y]) [])] w') := by
  have hz := qChk_ok hok
  refine calls_of Try.func87 rfl 10 rfl (by simp) ?_
  have hp0 := Hp.init w
  have he0 : List.map (env0 [GConfig.val c]) [0] = [GConfig.val c] := by kernel_rfl
  obtain ⟨b0, he0⟩ := toMk he0
  rw [he0]
  clear he0
  refine WP.seq ?_
  refine WP.region _ rfl (by kernel_rfl) ?_
  refine OPS.cons (opStep.box hp0 [.int .i64 c.N, .int .i64 c.K, .int .i64 c.Delta] (by kernel_rfl) (fun g3 w1 hp2 => ?_))
  refine OPS.batch 2 {} [] [1] [.pointer (some ⟨g3, 0, none⟩)] .nil (by kernel_rfl) (fun b4 => ?_)
  refine OPS.nil ?_
  refine thn_n ?_
  refine WP.seq ?_
  refine WP.seq ?_
  refine WP.region _ rfl (by kernel_rfl) ?_
  refine OPS.batch 1 {} [GConfig.val c] [1, 4] [.pointer (some ⟨g3, 0, none⟩), GConfig.val c] (.cons (show Ld Try.prog w1 60 ⟨g3, 0, none⟩ (GConfig.val c) from Ld.rowN (cs := [.int .i64 c.N, .int .i64 c.K, .int .i64 c.Delta]) hp2.get0 (by kernel_rfl)) .nil) (by kernel_rfl) (fun b5 => ?_)
  refine OPS.cons (opStep.call (some 5) [GConfig.val c] (by kernel_rfl) (r_Check c _) ?_)
  rintro _ w8 ⟨rfl, hf9⟩
  refine ⟨_, rfl, ?_⟩
  have hp10 := hp2.step hf9
  refine OPS.batch 1 {} [] [1, 6] [.pointer (some ⟨g3, 0, none⟩), .bool (decide (¬ ((qChk c) = 0)))] .nil (by kernel_rfl) (fun b11 => ?_)
  refine OPS.nil ?_
  refine thn_n ?_
  refine WP.test (p := ¬ ((qChk c) = 0)) rfl Bp.dec (fun h12 => ?_) (fun h12 => ?_)
  · refine WP.seq ?_
    refine WP.pure {} [] [2, 3] [.pointer none, .int .i64 40] .nil (by kernel_rfl) (fun b13 => ?_)
    refine thn_n ?_
    refine WP.ret ?_
    refine thn_r ?_
    refine bodyQ.of _ rfl [.pointer none, .int .i64 40] ⟨rfl, rfl, trivial⟩ ?_
    exfalso
    rw [hz] at h12
    exact absurd rfl h12
  · replace h12 := Classical.not_not.1 h12
    refine WP.skip ?_
    refine thn_n ?_
    refine WP.seq ?_
    refine WP.region _ rfl (by kernel_rfl) ?_
    refine OPS.batch 2 {} [GConfig.val c] [8] [.agg #[.int .i64 c.N, .int .i64 c.K, .int .i64 c.Delta, .slice none 0 0]] (.cons (show Ld Try.prog w8 60 ⟨g3, 0, none⟩ (GConfig.val c) from Ld.rowN (cs := [.int .i64 c.N, .int .i64 c.K, .int .i64 c.Delta]) hp10.get0 (by kernel_rfl)) .nil) (by kernel_rfl) (fun b14 => ?_)
    refine OPS.cons (opStep.box hp10 [.int .i64 c.N, .int .i64 c.K, .int .i64 c.Delta, .slice none 0 0] (by kernel_rfl) (fun g17 w15 hp16 => ?_))
    refine OPS.batch 2 {} [] [2, 3] [.pointer (some ⟨g17, 0, none⟩), .int .i64 0] .nil (by kernel_rfl) (fun b18 => ?_)
    refine OPS.nil ?_
    refine thn_n ?_
    refine WP.ret ?_
    refine bodyQ.of _ rfl [.pointer (some ⟨g17, 0, none⟩), .int .i64 0] ⟨rfl, rfl, trivial⟩ ?_
    have hpz := (hp16.sub (.cons_cons _ (.cons _ (.slnil)))).nilOwn 3 1
    exact ⟨_, rfl, hpz.pull1⟩

theorem r_Copy (w0 : World) (L : List Res) (q : Nat) (c : GConfig) (m : Nat) (ys : List Int) (a : Option Addr) (n cp : Nat) (w : World) (hok : okCfg c) (hrel : Rel c m ys) (hp0 : Hp w0 Non (Res.row q [.int .i64 c.N, .int .i64 c.K, .int .i64 c.Delta, .slice a n cp] 163 :: Res.own 3 1 (.slice a n cp) n (List.flatMap (fun (y : Int) => [Go.Value.int .i64 y]) ys) :: L) w) :
    Calls Try.prog 93 #[.pointer (some ⟨q, 0, none⟩)] w (fun r_ w' => ∃ (q' : Nat) (a' : Option Addr) (n' cp' : Nat), r_ = .returned (.pointer (some ⟨q', 0, none⟩)) ∧ Hp w0 Non (Res.row q' [.int .i64 c.N, .int .i64 c.K, .int .i64 c.Delta, .slice a' n' cp'] 163 :: Res.own 3 1 (.slice a' n' cp') n' (List.flatMap (fun (y : Int) => [Go.Value.int .i64 y]) ys) :: Res.row q [.int .i64 c.N, .int .i64 c.K, .int .i64 c.Delta, .slice a n cp] 163 :: Res.own 3 1 (.slice a n cp) n (List.flatMap (fun (y : Int) => [Go.Value.int .i64 y]) ys) :: L) w') := by
  have hok1 := hok
  unfold okCfg at hok1
  have hyl := rel_le hok hrel
  have hyn := own_flat (sz := 1) (fun _ => rfl) (by decide) hp0.get1
  have hyc := rel_cnt hok hrel
  refine calls_of Try.func93 rfl 25 rfl (by simp) ?_
  have he0 : List.map (env0 [.pointer (some ⟨q, 0, none⟩)]) [0] = [.pointer (some ⟨q, 0, none⟩)] := by kernel_rfl
  obtain ⟨b0, he0⟩ := toMk he0
  rw [he0]
  clear he0
  refine WP.seq ?_
  refine WP.pure {} [] [0] [.pointer (some ⟨q, 0, none⟩)] .nil (by kernel_rfl) (fun b1 => ?_)
  refine thn_n ?_
  refine WP.seq ?_
  refine WP.seq ?_
  refine WP.pure {} [] [0, 5] [.pointer (some ⟨q, 0, none⟩), .bool false] .nil (by kernel_rfl) (fun b2 => ?_)
  refine thn_n ?_
  refine WP.condF rfl ?_
  refine WP.skip ?_
  refine thn_n ?_
  refine WP.seq ?_
  refine WP.region _ rfl (by kernel_rfl) ?_
  refine OPS.batch 5 {} [.agg #[.int .i64 c.N, .int .i64 c.K, .int .i64 c.Delta]] [0, 10] [.pointer (some ⟨q, 0, none⟩), .agg #[.int .i64 c.N, .int .i64 c.K, .int .i64 c.Delta, .slice none 0 0]] (.cons (show Ld Try.prog w 60 ⟨q, 0, none⟩ (.agg #[.int .i64 c.N, .int .i64 c.K, .int .i64 c.Delta]) from Ld.rowN (cs := [.int .i64 c.N, .int .i64 c.K, .int .i64 c.Delta]) hp0.get0 (by kernel_rfl)) .nil) (by kernel_rfl) (fun b3 => ?_)
  refine OPS.cons (opStep.box hp0 [.int .i64 c.N, .int .i64 c.K, .int .i64 c.Delta, .slice none 0 0] (by kernel_rfl) (fun g6 w4 hp5 => ?_))
  refine OPS.batch 1 {} [] [0, 3] [.pointer (some ⟨q, 0, none⟩), .pointer (some ⟨g6, 0, none⟩)] .nil (by kernel_rfl) (fun b7 => ?_)
  refine OPS.nil ?_
  refine thn_n ?_
  refine WP.seq ?_
  have hp8 := hp5.drew
  refine WP.held (fun w9 => Ld Try.prog w9 36 ⟨g6, 3, none⟩ (.slice none 0 0) ∧ Ld Try.prog w9 36 ⟨q, 3, none⟩ (.slice a n cp) ∧ True) [12] [(0, true), (1, true), (2, true), (3, true), (4, true), (5, true), (6, true), (7, true), (8, true), (9, false), (10, false), (11, true), (12, false)] (np_thn np_body) (by kernel_rfl) ?_
  refine HOPS.take 9 {} [.slice none 0 0, .slice a n cp] [3, 12, 16, 20] [.pointer (some ⟨g6, 0, none⟩), .pointer (some ⟨g6, 0, none⟩), .slice none 0 0, .slice a n cp] (by kernel_rfl) ⟨(show Ld Try.prog w4.drew 36 ⟨g6, 3, none⟩ (.slice none 0 0) from (Ld.row1 (P := Try.prog) (t := 36) (o := 3) (v := .slice none 0 0) hp8.get0 (by kernel_rfl))), (show Ld Try.prog w4.drew 36 ⟨q, 3, none⟩ (.slice a n cp) from (Ld.row1 (P := Try.prog) (t := 36) (o := 3) (v := .slice a n cp) hp8.get1 (by kernel_rfl))), trivial⟩ (fun w10 hS11 => QB.mk (.cons (hS11.1) (.cons (hS11.2.1) .nil)) (by kernel_rfl)) (fun b12 => ?_)
  have hp16 := (show Hp w0 Non (Res.own 3 1 (.slice none 0 0) 0 (List.flatMap (fun (y : Int) => [Go.Value.int .i64 y]) ([] : List Int)) :: Res.row g6 [.int .i64 c.N, .int .i64 c.K, .int .i64 c.Delta, .slice none 0 0] 163 :: Res.row q [.int .i64 c.N, .int .i64 c.K, .int .i64 c.Delta, .slice a n cp] 163 :: Res.own 3 1 (.slice a n cp) n (List.flatMap (fun (y : Int) => [Go.Value.int .i64 y]) ys) :: L) w4.drew from hp8.nilOwn 3 1)
  refine HOPS.eff _ rfl (opStep.appendS (A := []) hp16 8 (by kernel_rfl) rfl rfl (SlR.own (hp16.get3)) (flat_n (fun _ => rfl) (own_flat (sz := 1) (fun _ => rfl) (by decide) hp16.get3)) (one_flat (fun _ => rfl)) (by decide) (by omega) (by omega) (fun a17 c18 w19 hp20 => ?_))
  rw [show List.flatMap (fun (y : Int) => [Go.Value.int .i64 y]) ([] : List Int) ++ List.flatMap (fun (y : Int) => [Go.Value.int .i64 y]) ys = List.flatMap (fun (y : Int) => [Go.Value.int .i64 y]) (([] : List Int) ++ ys) from List.flatMap_append.symm] at hp20
  simp only [List.cons_append, List.nil_append] at hp20
  refine ⟨.inr ⟨(show Ld Try.prog w19 36 ⟨g6, 3, none⟩ (.slice none 0 0) from (Ld.row1 (P := Try.prog) (t := 36) (o := 3) (v := .slice none 0 0) hp20.get1 (by kernel_rfl))), (show Ld Try.prog w19 36 ⟨q, 3, none⟩ (.slice a n cp) from (Ld.row1 (P := Try.prog) (t := 36) (o := 3) (v := .slice a n cp) hp20.get2 (by kernel_rfl))), trivial⟩, ?_⟩
  refine HOPS.one _ rfl {} [] [3, 21, 22] [.pointer (some ⟨g6, 0, none⟩), .slice a17 (0 + n) c18, .pointer (some ⟨g6, 0, none⟩)] .nil (by kernel_rfl) ⟨(show Ld Try.prog w19 36 ⟨g6, 3, none⟩ (.slice none 0 0) from (Ld.row1 (P := Try.prog) (t := 36) (o := 3) (v := .slice none 0 0) hp20.get1 (by kernel_rfl))), (show Ld Try.prog w19 36 ⟨q, 3, none⟩ (.slice a n cp) from (Ld.row1 (P := Try.prog) (t := 36) (o := 3) (v := .slice a n cp) hp20.get2 (by kernel_rfl))), trivial⟩ (fun b23 => ?_)
  refine HOPS.take 1 {} [] [3, 21, 23] [.pointer (some ⟨g6, 0, none⟩), .slice a17 (0 + n) c18, .pointer (some ⟨g6, 3, none⟩)] (by kernel_rfl) ⟨(show Ld Try.prog w19 36 ⟨g6, 3, none⟩ (.slice none 0 0) from (Ld.row1 (P := Try.prog) (t := 36) (o := 3) (v := .slice none 0 0) hp20.get1 (by kernel_rfl))), (show Ld Try.prog w19 36 ⟨q, 3, none⟩ (.slice a n cp) from (Ld.row1 (P := Try.prog) (t := 36) (o := 3) (v := .slice a n cp) hp20.get2 (by kernel_rfl))), trivial⟩ (fun w24 hS25 => QB.mk .nil (by kernel_rfl)) (fun b26 => ?_)
  refine HOPS.eff _ rfl (opStep.store1 hp20 rfl [.slice a17 (0 + n) c18] [.int .i64 c.N, .int .i64 c.K, .int .i64 c.Delta, .slice a17 (0 + n) c18] (by kernel_rfl) (fun w27 hp28 => ?_))
  refine ⟨.inl rfl, ?_⟩
  refine HOPS.nil ?_
  refine thn_n ?_
  refine WP.seq ?_
  refine WP.pure {} [] [2] [.pointer (some ⟨g6, 0, none⟩)] .nil (by kernel_rfl) (fun b29 => ?_)
  refine thn_n ?_
  refine WP.ret ?_
  refine bodyQ.of _ rfl [.pointer (some ⟨g6, 0, none⟩)] ⟨rfl, trivial⟩ ?_
  exact ⟨_, _, _, _, rfl, (((((hp28.pull3).pull3).pull2).pull3).sub (.cons_cons _ (.cons_cons _ (.cons_cons _ (.cons_cons _ (.refl _))))))⟩

theorem r_And_snil (w : World) (o : Option Addr) :
    Calls Try.prog 91 #[.pointer none, .pointer o] w (fun r_ w' => r_ = .returned (.tuple #[.pointer none, .int .i64 0]) ∧ Fram Non w w') := by
  refine calls_of Try.func91 rfl 54 rfl (by simp) ?_
  have hp0 := Hp.init w
  have he0 : List.map (env0 [.pointer none, .pointer o]) [0, 1] = [.pointer none, .pointer o] := by kernel_rfl
  obtain ⟨b0, he0⟩ := toMk he0
  rw [he0]
  clear he0
  refine WP.seq ?_
  refine WP.pure {} [] [0, 1] [.pointer none, .pointer o] .nil (by kernel_rfl) (fun b1 => ?_)
  refine thn_n ?_
  refine WP.seq ?_
  refine WP.seq ?_
  refine WP.pure {} [] [0, 1, 10] [.pointer none, .pointer o, .bool true] .nil (by kernel_rfl) (fun b2 => ?_)
  refine thn_n ?_
  refine WP.condT rfl ?_
  refine WP.seq ?_
  refine WP.pure {} [] [4, 5] [.pointer none, .int .i64 0] .nil (by kernel_rfl) (fun b3 => ?_)
  refine thn_n ?_
  refine WP.ret ?_
  refine thn_r ?_
  refine bodyQ.of _ rfl [.pointer none, .int .i64 0] ⟨rfl, rfl, trivial⟩ ?_
  exact ⟨rfl, hp0.fr⟩

theorem r_And_onil (w0 : World) (L : List Res) (q : Nat) (c : GConfig) (m : Nat) (ys : List Int) (a : Option Addr) (n cp : Nat) (w : World) (hok : okCfg c) (hrel : Rel c m ys) (hp0 : Hp w0 Non (Res.row q [.int .i64 c.N, .int .i64 c.K, .int .i64 c.Delta, .slice a n cp] 163 :: Res.own 3 1 (.slice a n cp) n (List.flatMap (fun (y : Int) => [Go.Value.int .i64 y]) ys) :: L) w) :
    Calls Try.prog 91 #[.pointer (some ⟨q, 0, none⟩), .pointer none] w (fun r_ w' => r_ = .returned (.tuple #[.pointer none, .int .i64 1]) ∧ Hp w0 Non (Res.row q [.int .i64 c.N, .int .i64 c.K, .int .i64 c.Delta, .slice a n cp] 163 :: Res.own 3 1 (.slice a n cp) n (List.flatMap (fun (y : Int) => [Go.Value.int .i64 y]) ys) :: L) w') := by
  have hok1 := hok
  unfold okCfg at hok1
  have hyl := rel_le hok hrel
  have hyn := own_flat (sz := 1) (fun _ => rfl) (by decide) hp0.get1
  have hyc := rel_cnt hok hrel
  refine calls_of Try.func91 rfl 54 rfl (by simp) ?_
  have he0 : List.map (env0 [.pointer (some ⟨q, 0, none⟩), .pointer none]) [0, 1] = [.pointer (some ⟨q, 0, none⟩), .pointer none] := by kernel_rfl
  obtain ⟨b0, he0⟩ := toMk he0
  rw [he0]
  clear he0
  refine WP.seq ?_
  refine WP.pure {} [] [0, 1] [.pointer (some ⟨q, 0, none⟩), .pointer none] .nil (by kernel_rfl) (fun b1 => ?_)
  refine thn_n ?_
  refine WP.seq ?_
  refine WP.seq ?_
  refine WP.pure {} [] [0, 1, 10] [.pointer (some ⟨q, 0, none⟩), .pointer none, .bool false] .nil (by kernel_rfl) (fun b2 => ?_)
  refine thn_n ?_
  refine WP.condF rfl ?_
  refine WP.skip ?_
  refine thn_n ?_
  refine WP.seq ?_
  refine WP.seq ?_
  have hp5 := hp0.drew
  refine WP.quiet (fun w3 => Hp w0 Non (Res.row q [.int .i64 c.N, .int .i64 c.K, .int .i64 c.Delta, .slice a n cp] 163 :: Res.own 3 1 (.slice a n cp) n (List.flatMap (fun (y : Int) => [Go.Value.int .i64 y]) ys) :: L) w3) (by kernel_rfl) hp5 ?_
  have hnehp5 : ∃ wz_, (fun w3 => Hp w0 Non (Res.row q [.int .i64 c.N, .int .i64 c.K, .int .i64 c.Delta, .slice a n cp] 163 :: Res.own 3 1 (.slice a n cp) n (List.flatMap (fun (y : Int) => [Go.Value.int .i64 y]) ys) :: L) w3) wz_ := ⟨_, hp5⟩
  refine QOPS.batch 13 { wraps := [23] } [] [0, 1, 23] [.pointer (some ⟨q, 0, none⟩), .pointer none, .bool true] hnehp5 (fun w6 hp7 => QB.mk .nil (by kernel_rfl)) (fun b8 => ?_)
  refine QOPS.nil (fun w9 hp10 => ?_)
  refine thn_n ?_
  refine WP.condT rfl ?_
  refine WP.seq ?_
  refine WP.pure {} [] [4, 5] [.pointer none, .int .i64 1] .nil (by kernel_rfl) (fun b11 => ?_)
  refine thn_n ?_
  refine WP.ret ?_
  refine thn_r ?_
  refine bodyQ.of _ rfl [.pointer none, .int .i64 1] ⟨rfl, rfl, trivial⟩ ?_
  exact ⟨rfl, hp10⟩

theorem r_And_ne (w0 : World) (L : List Res) (q : Nat) (c : GConfig) (m : Nat) (ys : List Int) (a : Option Addr) (n cp : Nat) (w : World) (hok : okCfg c) (hrel : Rel c m ys) (qo : Nat) (c2 : GConfig) (o : Nat) (zs : List Int) (b : Option Addr) (z cz : Nat) (hne : ¬ (c2.N = c.N ∧ c2.K = c.K ∧ c2.Delta = c.Delta)) (hp0 : Hp w0 Non (Res.row q [.int .i64 c.N, .int .i64 c.K, .int .i64 c.Delta, .slice a n cp] 163 :: Res.own 3 1 (.slice a n cp) n (List.flatMap (fun (y : Int) => [Go.Value.int .i64 y]) ys) :: Res.row qo [.int .i64 c2.N, .int .i64 c2.K, .int .i64 c2.Delta, .slice b z cz] 163 :: Res.own 3 1 (.slice b z cz) z (List.flatMap (fun (y : Int) => [Go.Value.int .i64 y]) zs) :: L) w) :
    Calls Try.prog 91 #[.pointer (some ⟨q, 0, none⟩), .pointer (some ⟨qo, 0, none⟩)] w (fun r_ w' => r_ = .returned (.tuple #[.pointer none, .int .i64 1]) ∧ Hp w0 Non (Res.row q [.int .i64 c.N, .int .i64 c.K, .int .i64 c.Delta, .slice a n cp] 163 :: Res.own 3 1 (.slice a n cp) n (List.flatMap (fun (y : Int) => [Go.Value.int .i64 y]) ys) :: Res.row qo [.int .i64 c2.N, .int .i64 c2.K, .int .i64 c2.Delta, .slice b z cz] 163 :: Res.own 3 1 (.slice b z cz) z (List.flatMap (fun (y : Int) => [Go.Value.int .i64 y]) zs) :: L) w') := by
  have hok1 := hok
  unfold okCfg at hok1
  have hyl := rel_le hok hrel
  have hyn := own_flat (sz := 1) (fun _ => rfl) (by decide) hp0.get1
  have hyc := rel_cnt hok hrel
  refine calls_of Try.func91 rfl 54 rfl (by simp) ?_
  have he0 : List.map (env0 [.pointer (some ⟨q, 0, none⟩), .pointer (some ⟨qo, 0, none⟩)]) [0, 1] = [.pointer (some ⟨q, 0, none⟩), .pointer (some ⟨qo, 0, none⟩)] := by kernel_rfl
  obtain ⟨b0, he0⟩ := toMk he0
  rw [he0]
  clear he0
  refine WP.seq ?_
  refine WP.pure {} [] [0, 1] [.pointer (some ⟨q, 0, none⟩), .pointer (some ⟨qo, 0, none⟩)] .nil (by kernel_rfl) (fun b1 => ?_)
  refine thn_n ?_
  refine WP.seq ?_
  refine WP.seq ?_
  refine WP.pure {} [] [0, 1, 10] [.pointer (some ⟨q, 0, none⟩), .pointer (some ⟨qo, 0, none⟩), .bool false] .nil (by kernel_rfl) (fun b2 => ?_)
  refine thn_n ?_
  refine WP.condF rfl ?_
  refine WP.skip ?_
  refine thn_n ?_
  refine WP.seq ?_
  refine WP.seq ?_
  have hp5 := hp0.drew
  refine WP.quiet (fun w3 => Hp w0 Non (Res.row q [.int .i64 c.N, .int .i64 c.K, .int .i64 c.Delta, .slice a n cp] 163 :: Res.own 3 1 (.slice a n cp) n (List.flatMap (fun (y : Int) => [Go.Value.int .i64 y]) ys) :: Res.row qo [.int .i64 c2.N, .int .i64 c2.K, .int .i64 c2.Delta, .slice b z cz] 163 :: Res.own 3 1 (.slice b z cz) z (List.flatMap (fun (y : Int) => [Go.Value.int .i64 y]) zs) :: L) w3) (by kernel_rfl) hp5 ?_
  have hnehp5 : ∃ wz_, (fun w3 => Hp w0 Non (Res.row q [.int .i64 c.N, .int .i64 c.K, .int .i64 c.Delta, .slice a n cp] 163 :: Res.own 3 1 (.slice a n cp) n (List.flatMap (fun (y : Int) => [Go.Value.int .i64 y]) ys) :: Res.row qo [.int .i64 c2.N, .int .i64 c2.K, .int .i64 c2.Delta, .slice b z cz] 163 :: Res.own 3 1 (.slice b z cz) z (List.flatMap (fun (y : Int) => [Go.Value.int .i64 y]) zs) :: L) w3) wz_ := ⟨_, hp5⟩
  refine QOPS.batch 13 { wraps := [23] } [.agg #[.int .i64 c2.N, .int .i64 c2.K, .int .i64 c2.Delta], .agg #[.int .i64 c.N, .int .i64 c.K, .int .i64 c.Delta]] [0, 1, 23] [.pointer (some ⟨q, 0, none⟩), .pointer (some ⟨qo, 0, none⟩), .bool (!((decide (c2.N = c.N)) && ((decide (c2.K = c.K)) && ((decide (c2.Delta = c.Delta)) && true))))] hnehp5 (fun w6 hp7 => QB.mk (.cons (show Ld Try.prog w6 60 ⟨qo, 0, none⟩ (.agg #[.int .i64 c2.N, .int .i64 c2.K, .int .i64 c2.Delta]) from Ld.rowN (cs := [.int .i64 c2.N, .int .i64 c2.K, .int .i64 c2.Delta]) hp7.get2 (by kernel_rfl)) (.cons (show Ld Try.prog w6 60 ⟨q, 0, none⟩ (.agg #[.int .i64 c.N, .int .i64 c.K, .int .i64 c.Delta]) from Ld.rowN (cs := [.int .i64 c.N, .int .i64 c.K, .int .i64 c.Delta]) hp7.get0 (by kernel_rfl)) .nil)) (by kernel_rfl)) (fun b8 => ?_)
  refine QOPS.nil (fun w9 hp10 => ?_)
  refine thn_n ?_
  refine WP.test (p := ¬ ((c2.N = c.N) ∧ ((c2.K = c.K) ∧ (c2.Delta = c.Delta)))) rfl (Bp.not (Bp.band Bp.dec (Bp.band Bp.dec (Bp.band1 Bp.dec)))) (fun h11 => ?_) (fun h11 => ?_)
  · refine WP.seq ?_
    refine WP.pure {} [] [4, 5] [.pointer none, .int .i64 1] .nil (by kernel_rfl) (fun b12 => ?_)
    refine thn_n ?_
    refine WP.ret ?_
    refine thn_r ?_
    refine bodyQ.of _ rfl [.pointer none, .int .i64 1] ⟨rfl, rfl, trivial⟩ ?_
    exact ⟨rfl, hp10⟩
  · replace h11 := Classical.not_not.1 h11
    refine WP.skip ?_
    refine thn_n ?_
    refine WP.seq ?_
    exact absurd (show c2.N = c.N ∧ c2.K = c.K ∧ c2.Delta = c.Delta from h11) hne

theorem r_And (w0 : World) (L : List Res) (q : Nat) (c : GConfig) (m : Nat) (ys : List Int) (a : Option Addr) (n cp : Nat) (w : World) (hok : okCfg c) (hrel : Rel c m ys) (qo : Nat) (o : Nat) (zs : List Int) (b : Option Addr) (z cz : Nat) (hrel2 : Rel c o zs) (hp0 : Hp w0 Non (Res.row q [.int .i64 c.N, .int .i64 c.K, .int .i64 c.Delta, .slice a n cp] 163 :: Res.own 3 1 (.slice a n cp) n (List.flatMap (fun (y : Int) => [Go.Value.int .i64 y]) ys) :: Res.row qo [.int .i64 c.N, .int .i64 c.K, .int .i64 c.Delta, .slice b z cz] 163 :: Res.own 3 1 (.slice b z cz) z (List.flatMap (fun (y : Int) => [Go.Value.int .i64 y]) zs) :: L) w) :
    Calls Try.prog 91 #[.pointer (some ⟨q, 0, none⟩), .pointer (some ⟨qo, 0, none⟩)] w (fun r_ w' => ∃ (q' : Nat) (a' : Option Addr) (n' cp' : Nat), r_ = .returned (.tuple #[.pointer (some ⟨q', 0, none⟩), .int .i64 0]) ∧ Hp w0 Non (Res.row q' [.int .i64 c.N, .int .i64 c.K, .int .i64 c.Delta, .slice a' n' cp'] 163 :: Res.own 3 1 (.slice a' n' cp') n' (List.flatMap (fun (y : Int) => [Go.Value.int .i64 y]) (ys.filter fun y => o.testBit y.toNat)) :: Res.row q [.int .i64 c.N, .int .i64 c.K, .int .i64 c.Delta, .slice a n cp] 163 :: Res.own 3 1 (.slice a n cp) n (List.flatMap (fun (y : Int) => [Go.Value.int .i64 y]) ys) :: Res.row qo [.int .i64 c.N, .int .i64 c.K, .int .i64 c.Delta, .slice b z cz] 163 :: Res.own 3 1 (.slice b z cz) z (List.flatMap (fun (y : Int) => [Go.Value.int .i64 y]) zs) :: L) w') := by
  have hok1 := hok
  unfold okCfg at hok1
  have hyl := rel_le hok hrel
  have hyn := own_flat (sz := 1) (fun _ => rfl) (by decide) hp0.get1
  have hyc := rel_cnt hok hrel
  refine calls_of Try.func91 rfl 54 rfl (by simp) ?_
  have he0 : List.map (env0 [.pointer (some ⟨q, 0, none⟩), .pointer (some ⟨qo, 0, none⟩)]) [0, 1] = [.pointer (some ⟨q, 0, none⟩), .pointer (some ⟨qo, 0, none⟩)] := by kernel_rfl
  obtain ⟨b0, he0⟩ := toMk he0
  rw [he0]
  clear he0
  refine WP.seq ?_
  refine WP.pure {} [] [0, 1] [.pointer (some ⟨q, 0, none⟩), .pointer (some ⟨qo, 0, none⟩)] .nil (by kernel_rfl) (fun b1 => ?_)
  refine thn_n ?_
  refine WP.seq ?_
  refine WP.seq ?_
  refine WP.pure {} [] [0, 1, 10] [.pointer (some ⟨q, 0, none⟩), .pointer (some ⟨qo, 0, none⟩), .bool false] .nil (by kernel_rfl) (fun b2 => ?_)
  refine thn_n ?_
  refine WP.condF rfl ?_
  refine WP.skip ?_
  refine thn_n ?_
  refine WP.seq ?_
  refine WP.seq ?_
  have hp5 := hp0.drew
  refine WP.quiet (fun w3 => Hp w0 Non (Res.row q [.int .i64 c.N, .int .i64 c.K, .int .i64 c.Delta, .slice a n cp] 163 :: Res.own 3 1 (.slice a n cp) n (List.flatMap (fun (y : Int) => [Go.Value.int .i64 y]) ys) :: Res.row qo [.int .i64 c.N, .int .i64 c.K, .int .i64 c.Delta, .slice b z cz] 163 :: Res.own 3 1 (.slice b z cz) z (List.flatMap (fun (y : Int) => [Go.Value.int .i64 y]) zs) :: L) w3) (by kernel_rfl) hp5 ?_
  have hnehp5 : ∃ wz_, (fun w3 => Hp w0 Non (Res.row q [.int .i64 c.N, .int .i64 c.K, .int .i64 c.Delta, .slice a n cp] 163 :: Res.own 3 1 (.slice a n cp) n (List.flatMap (fun (y : Int) => [Go.Value.int .i64 y]) ys) :: Res.row qo [.int .i64 c.N, .int .i64 c.K, .int .i64 c.Delta, .slice b z cz] 163 :: Res.own 3 1 (.slice b z cz) z (List.flatMap (fun (y : Int) => [Go.Value.int .i64 y]) zs) :: L) w3) wz_ := ⟨_, hp5⟩
  refine QOPS.batch 13 { wraps := [23] } [.agg #[.int .i64 c.N, .int .i64 c.K, .int .i64 c.Delta], .agg #[.int .i64 c.N, .int .i64 c.K, .int .i64 c.Delta]] [0, 1, 23] [.pointer (some ⟨q, 0, none⟩), .pointer (some ⟨qo, 0, none⟩), .bool (!((decide (c.N = c.N)) && ((decide (c.K = c.K)) && ((decide (c.Delta = c.Delta)) && true))))] hnehp5 (fun w6 hp7 => QB.mk (.cons (show Ld Try.prog w6 60 ⟨qo, 0, none⟩ (.agg #[.int .i64 c.N, .int .i64 c.K, .int .i64 c.Delta]) from Ld.rowN (cs := [.int .i64 c.N, .int .i64 c.K, .int .i64 c.Delta]) hp7.get2 (by kernel_rfl)) (.cons (show Ld Try.prog w6 60 ⟨q, 0, none⟩ (.agg #[.int .i64 c.N, .int .i64 c.K, .int .i64 c.Delta]) from Ld.rowN (cs := [.int .i64 c.N, .int .i64 c.K, .int .i64 c.Delta]) hp7.get0 (by kernel_rfl)) .nil)) (by kernel_rfl)) (fun b8 => ?_)
  refine QOPS.nil (fun w9 hp10 => ?_)
  refine thn_n ?_
  refine WP.test (p := ¬ ((c.N = c.N) ∧ ((c.K = c.K) ∧ (c.Delta = c.Delta)))) rfl (Bp.not (Bp.band Bp.dec (Bp.band Bp.dec (Bp.band1 Bp.dec)))) (fun h11 => ?_) (fun h11 => ?_)
  · refine WP.seq ?_
    refine WP.pure {} [] [4, 5] [.pointer none, .int .i64 1] .nil (by kernel_rfl) (fun b12 => ?_)
    refine thn_n ?_
    refine WP.ret ?_
    refine thn_r ?_
    refine bodyQ.of _ rfl [.pointer none, .int .i64 1] ⟨rfl, rfl, trivial⟩ ?_
    exfalso
    exact h11 ⟨rfl, rfl, rfl⟩
  · replace h11 := Classical.not_not.1 h11
    refine WP.skip ?_
    refine thn_n ?_
    refine WP.seq ?_
    refine WP.region _ rfl (by kernel_rfl) ?_
    refine OPS.batch 5 {} [.agg #[.int .i64 c.N, .int .i64 c.K, .int .i64 c.Delta]] [0, 1, 28] [.pointer (some ⟨q, 0, none⟩), .pointer (some ⟨qo, 0, none⟩), .agg #[.int .i64 c.N, .int .i64 c.K, .int .i64 c.Delta, .slice none 0 0]] (.cons (show Ld Try.prog w9 60 ⟨q, 0, none⟩ (.agg #[.int .i64 c.N, .int .i64 c.K, .int .i64 c.Delta]) from Ld.rowN (cs := [.int .i64 c.N, .int .i64 c.K, .int .i64 c.Delta]) hp10.get0 (by kernel_rfl)) .nil) (by kernel_rfl) (fun b13 => ?_)
    refine OPS.cons (opStep.box hp10 [.int .i64 c.N, .int .i64 c.K, .int .i64 c.Delta, .slice none 0 0] (by kernel_rfl) (fun g16 w14 hp15 => ?_))
    refine OPS.batch 1 {} [] [0, 1, 6] [.pointer (some ⟨q, 0, none⟩), .pointer (some ⟨qo, 0, none⟩), .pointer (some ⟨g16, 0, none⟩)] .nil (by kernel_rfl) (fun b17 => ?_)
    refine OPS.nil ?_
    refine thn_n ?_
    refine WP.seq ?_
    refine WP.seq ?_
    refine WP.pure {} [.slice a n cp] [1, 6, 33, 34, 35] [.pointer (some ⟨qo, 0, none⟩), .pointer (some ⟨g16, 0, none⟩), .slice a n cp, .int .i64 ((n : Nat) : Int), .int .i64 0] (.cons (Ld.row1 (P := Try.prog) (t := 36) (o := 3) (v := .slice a n cp) hp15.get1 (by kernel_rfl)) .nil) (by kernel_rfl) (fun b18 => ?_)
    refine thn_n ?_
    refine WP.block ?_
    have hp19 := (show Hp w0 Non (Res.own 3 1 (.slice none 0 0) 0 (List.flatMap (fun (y : Int) => [Go.Value.int .i64 y]) ([] : List Int)) :: Res.row g16 [.int .i64 c.N, .int .i64 c.K, .int .i64 c.Delta, .slice none 0 0] 163 :: Res.row q [.int .i64 c.N, .int .i64 c.K, .int .i64 c.Delta, .slice a n cp] 163 :: Res.own 3 1 (.slice a n cp) n (List.flatMap (fun (y : Int) => [Go.Value.int .i64 y]) ys) :: Res.row qo [.int .i64 c.N, .int .i64 c.K, .int .i64 c.Delta, .slice b z cz] 163 :: Res.own 3 1 (.slice b z cz) z (List.flatMap (fun (y : Int) => [Go.Value.int .i64 y]) zs) :: L) w14 from hp15.nilOwn 3 1)
    refine WP.loop (fun mz_ e20 w21 => ∃ (k : Nat) (ts : List Int) (ta : Option Addr) (nt : Nat) (ct : Nat), mz_ = ys.length - k ∧ (k ≤ ys.length ∧ ts = (ys.take k).filter (fun y => o.testBit y.toNat)) ∧ List.map e20 [1, 6, 33, 34, 35] = [.pointer (some ⟨qo, 0, none⟩), .pointer (some ⟨g16, 0, none⟩), .slice a n cp, .int .i64 ((n : Nat) : Int), .int .i64 (k : Int)] ∧ Hp w0 Non (Res.own 3 1 (.slice ta nt ct) nt (List.flatMap (fun (y : Int) => [Go.Value.int .i64 y]) ts) :: Res.row g16 [.int .i64 c.N, .int .i64 c.K, .int .i64 c.Delta, .slice ta nt ct] 163 :: Res.row q [.int .i64 c.N, .int .i64 c.K, .int .i64 c.Delta, .slice a n cp] 163 :: Res.own 3 1 (.slice a n cp) n (List.flatMap (fun (y : Int) => [Go.Value.int .i64 y]) ys) :: Res.row qo [.int .i64 c.N, .int .i64 c.K, .int .i64 c.Delta, .slice b z cz] 163 :: Res.own 3 1 (.slice b z cz) z (List.flatMap (fun (y : Int) => [Go.Value.int .i64 y]) zs) :: L) w21) (ys.length - (0)) ⟨0, [], none, 0, 0, rfl, ⟨by omega, rfl⟩, by kernel_rfl, hp19⟩ ?_
    rintro _ e20 w21 ⟨k, ts, ta, nt, ct, rfl, hI23, hE24, hp22⟩
    obtain ⟨b25, rfl⟩ := toMk hE24
    clear hE24
    obtain ⟨pa, pb⟩ := hI23
    have pe := own_flat (sz := 1) (fun _ => rfl) (by decide) hp22.get0
    have pl : ts.length ≤ k := by rw [pb]; exact Nat.le_trans (List.length_filter_le _ _) (by rw [List.length_take]; omega)
    refine WP.seq ?_
    refine WP.pure {} [] [1, 6, 33, 34, 35, 36] [.pointer (some ⟨qo, 0, none⟩), .pointer (some ⟨g16, 0, none⟩), .slice a n cp, .int .i64 ((n : Nat) : Int), .int .i64 (k : Int), .bool (decide ((k : Int) < ((n : Nat) : Int)))] .nil (by kernel_rfl) (fun b26 => ?_)
    refine thn_n ?_
    refine WP.seq ?_
    refine WP.test (p := (k : Int) < ((n : Nat) : Int)) rfl Bp.dec (fun h27 => ?_) (fun h27 => ?_)
    · refine WP.skip ?_
      refine thn_n ?_
      refine WP.seq ?_
      refine WP.block ?_
      refine WP.seq ?_
      have := own_flat (sz := 1) (fun _ => rfl) (by decide) hp22.get3
      have hy29 : (ys)[k]? = some ys[k]! := get_bang (by first | (omega) | (simp only [List.length_append, List.length_cons, List.length_nil]; omega) | (simp only [List.length_take, List.length_append, List.length_cons, List.length_nil]; omega))
      refine WP.pure {} [.int .i64 (ys[k]!)] [1, 6, 8, 33, 34, 35] [.pointer (some ⟨qo, 0, none⟩), .pointer (some ⟨g16, 0, none⟩), .int .i64 (ys[k]!), .slice a n cp, .int .i64 ((n : Nat) : Int), .int .i64 (k : Int)] (.cons (show InB ((k : Int)) (n) from ⟨by omega, by omega⟩) (.cons ((SlR.own (hp22.get3)).some (by omega)) (.cons (Ld.add0 (Ld.el1 (P := Try.prog) (t := 3) (SlR.own (hp22.get3)).rd 1 (fun _ => rfl) hy29 (o := 0) (v := .int .i64 (ys[k]!)) (by kernel_rfl))) .nil))) (by kernel_rfl) (fun b30 => ?_)
      refine thn_n ?_
      refine WP.seq ?_
      refine WP.region _ rfl (by kernel_rfl) ?_
      refine OPS.batch 2 {} [] [1, 6, 8, 33, 34, 35, 39, 40] [.pointer (some ⟨qo, 0, none⟩), .pointer (some ⟨g16, 0, none⟩), .int .i64 (ys[k]!), .slice a n cp, .int .i64 ((n : Nat) : Int), .int .i64 (k : Int), .pointer (some ⟨qo, 0, none⟩), .int .i64 (ys[k]!)] .nil (by kernel_rfl) (fun b31 => ?_)
      have hp34 := hp22.pull5
      have hp35 := hp34.pull5
      refine OPS.cons (opStep.call (some 41) [.pointer (some ⟨qo, 0, none⟩), .int .i64 (ys[k]!)] (by kernel_rfl) (r_Has _ _ qo c o zs b z cz _ hok hrel2 (ys[k]!) hp35) ?_)
      rintro _ w36 ⟨b39, rfl, hq38, hp37⟩
      refine ⟨_, rfl, ?_⟩
      refine OPS.nil ?_
      refine thn_n ?_
      refine WP.test (p := inN c (ys[k]!) ∧ o.testBit (ys[k]!).toNat = true) rfl hq38 (fun h40 => ?_) (fun h40 => ?_)
      · refine WP.region _ rfl (by kernel_rfl) ?_
        refine OPS.batch 6 {} [.slice ta nt ct] [1, 6, 33, 34, 35, 42, 46, 47] [.pointer (some ⟨qo, 0, none⟩), .pointer (some ⟨g16, 0, none⟩), .slice a n cp, .int .i64 ((n : Nat) : Int), .int .i64 (k : Int), .pointer (some ⟨g16, 0, none⟩), .slice ta nt ct, .int .i64 (ys[k]!)] (.cons (Ld.row1 (P := Try.prog) (t := 36) (o := 3) (v := .slice ta nt ct) hp37.get3 (by kernel_rfl)) .nil) (by kernel_rfl) (fun b41 => ?_)
        refine OPS.cons (opStep.buildSlice (E := 3) hp37 [.int .i64 (ys[k]!)] (by kernel_rfl) (fun g44 w42 hp43 => ?_))
        refine OPS.cons (opStep.append3 [.int .i64 (ys[k]!)] hp43 8 (by kernel_rfl) rfl rfl rfl (SlR.row (n := 1) hp43.get0 rfl).rd (List.all_eq_true.1 (by kernel_rfl)) (by decide) (by omega) (by omega) (fun a47 c48 w49 hp50 hn51 => ?_))
        rw [(show List.flatMap (fun (y : Int) => [Go.Value.int .i64 y]) ts ++ [.int .i64 (ys[k]!)] = List.flatMap (fun (y : Int) => [Go.Value.int .i64 y]) (ts ++ [ys[k]!]) from (List.flatMap_append (xs := ts) (ys := [ys[k]!])).symm)] at hp50
        refine OPS.batch 2 {} [] [1, 6, 33, 34, 35, 49, 51] [.pointer (some ⟨qo, 0, none⟩), .pointer (some ⟨g16, 0, none⟩), .slice a n cp, .int .i64 ((n : Nat) : Int), .int .i64 (k : Int), .slice a47 (nt + 1) c48, .pointer (some ⟨g16, 3, none⟩)] .nil (by kernel_rfl) (fun b52 => ?_)
        refine OPS.cons (opStep.store4 hp50 rfl [.slice a47 (nt + 1) c48] [.int .i64 c.N, .int .i64 c.K, .int .i64 c.Delta, .slice a47 (nt + 1) c48] (by kernel_rfl) (fun w53 hp54 => ?_))
        refine OPS.nil ?_
        refine blk_n ?_
        refine thn_n ?_
        refine WP.pure {} [] [1, 6, 33, 34, 35] [.pointer (some ⟨qo, 0, none⟩), .pointer (some ⟨g16, 0, none⟩), .slice a n cp, .int .i64 ((n : Nat) : Int), .int .i64 ((k : Int) + 1)] (.cons (show Rng .i64 ((k : Int) + 1) from Rng.i64 (by omega)) .nil) (by kernel_rfl) (fun b55 => ?_)
        refine thn_n ?_
        exact ⟨ys.length - (k + 1), (by omega), k + 1, ts ++ [ys[k]!], a47, nt + 1, c48, rfl, ⟨by omega, (fil_stp (P := fun y => o.testBit y.toNat) (by omega) pb).1 (by exact h40.2)⟩, by kernel_rfl, (((((((hp54.pull2).pull2).pull6).pull6).pull6).pull6).sub (.cons_cons _ (.cons_cons _ (.cons_cons _ (.cons_cons _ (.cons_cons _ (.cons_cons _ (.cons _ (.refl _)))))))))⟩
      · refine WP.skip ?_
        refine blk_n ?_
        refine thn_n ?_
        refine WP.pure {} [] [1, 6, 33, 34, 35] [.pointer (some ⟨qo, 0, none⟩), .pointer (some ⟨g16, 0, none⟩), .slice a n cp, .int .i64 ((n : Nat) : Int), .int .i64 ((k : Int) + 1)] (.cons (show Rng .i64 ((k : Int) + 1) from Rng.i64 (by omega)) .nil) (by kernel_rfl) (fun b56 => ?_)
        refine thn_n ?_
        exact ⟨ys.length - (k + 1), (by omega), k + 1, ts, ta, nt, ct, rfl, ⟨by omega, (fil_stp (P := fun y => o.testBit y.toNat) (by omega) pb).2 (by exact fun z => h40 ⟨hrel.2.1 _ (List.mem_of_getElem? (get_bang (by omega))), z⟩)⟩, by kernel_rfl, (((((((hp37.pull1).pull1).pull5).pull5).pull5).pull5).sub (.cons_cons _ (.cons_cons _ (.cons_cons _ (.cons_cons _ (.cons_cons _ (.cons_cons _ (.refl _))))))))⟩
    · refine WP.exit ?_
      refine thn_x ?_
      refine thn_x ?_
      refine blk_hit ?_
      refine thn_n ?_
      refine WP.seq ?_
      refine WP.pure {} [] [4, 5] [.pointer (some ⟨g16, 0, none⟩), .int .i64 0] .nil (by kernel_rfl) (fun b57 => ?_)
      refine thn_n ?_
      refine WP.ret ?_
      refine bodyQ.of _ rfl [.pointer (some ⟨g16, 0, none⟩), .int .i64 0] ⟨rfl, rfl, trivial⟩ ?_
      have hkn : k = ys.length := by omega
      rw [hkn, List.take_length] at pb
      subst pb
      exact ⟨_, _, _, _, rfl, (((((((hp22.pull5).pull5).pull5).pull5).pull4).pull5).sub (.cons_cons _ (.cons_cons _ (.cons_cons _ (.cons_cons _ (.cons_cons _ (.cons_cons _ (.refl _))))))))⟩

theorem r_AndSelf (w0 : World) (L : List Res) (q : Nat) (c : GConfig) (o : Nat) (ys : List Int) (a : Option Addr) (n cp : Nat) (w : World) (hok : okCfg c) (hrel : Rel c o ys) (hp0 : Hp w0 Non (Res.row q [.int .i64 c.N, .int .i64 c.K, .int .i64 c.Delta, .slice a n cp] 163 :: Res.own 3 1 (.slice a n cp) n (List.flatMap (fun (y : Int) => [Go.Value.int .i64 y]) ys) :: L) w) :
    Calls Try.prog 91 #[.pointer (some ⟨q, 0, none⟩), .pointer (some ⟨q, 0, none⟩)] w (fun r_ w' => ∃ (q' : Nat) (a' : Option Addr) (n' cp' : Nat), r_ = .returned (.tuple #[.pointer (some ⟨q', 0, none⟩), .int .i64 0]) ∧ Hp w0 Non (Res.row q' [.int .i64 c.N, .int .i64 c.K, .int .i64 c.Delta, .slice a' n' cp'] 163 :: Res.own 3 1 (.slice a' n' cp') n' (List.flatMap (fun (y : Int) => [Go.Value.int .i64 y]) (ys.filter fun y => o.testBit y.toNat)) :: Res.row q [.int .i64 c.N, .int .i64 c.K, .int .i64 c.Delta, .slice a n cp] 163 :: Res.own 3 1 (.slice a n cp) n (List.flatMap (fun (y : Int) => [Go.Value.int .i64 y]) ys) :: L) w') := by
  have hok1 := hok
  unfold okCfg at hok1
  have hyl := rel_le hok hrel
  have hyn := own_flat (sz := 1) (fun _ => rfl) (by decide) hp0.get1
  have hyc := rel_cnt hok hrel
  refine calls_of Try.func91 rfl 54 rfl (by simp) ?_
  have he0 : List.map (env0 [.pointer (some ⟨q, 0, none⟩), .pointer (some ⟨q, 0, none⟩)]) [0, 1] = [.pointer (some ⟨q, 0, none⟩), .pointer (some ⟨q, 0, none⟩)] := by kernel_rfl
  obtain ⟨b0, he0⟩ := toMk he0
  rw [he0]
  clear he0
  refine WP.seq ?_
  refine WP.pure {} [] [0, 1] [.pointer (some ⟨q, 0, none⟩), .pointer (some ⟨q, 0, none⟩)] .nil (by kernel_rfl) (fun b1 => ?_)
  refine thn_n ?_
  refine WP.seq ?_
  refine WP.seq ?_
  refine WP.pure {} [] [0, 1, 10] [.pointer (some ⟨q, 0, none⟩), .pointer (some ⟨q, 0, none⟩), .bool false] .nil (by kernel_rfl) (fun b2 => ?_)
  refine thn_n ?_
  refine WP.condF rfl ?_
  refine WP.skip ?_
  refine thn_n ?_
  refine WP.seq ?_
  refine WP.seq ?_
  have hp5 := hp0.drew
  refine WP.quiet (fun w3 => Hp w0 Non (Res.row q [.int .i64 c.N, .int .i64 c.K, .int .i64 c.Delta, .slice a n cp] 163 :: Res.own 3 1 (.slice a n cp) n (List.flatMap (fun (y : Int) => [Go.Value.int .i64 y]) ys) :: L) w3) (by kernel_rfl) hp5 ?_
  have hnehp5 : ∃ wz_, (fun w3 => Hp w0 Non (Res.row q [.int .i64 c.N, .int .i64 c.K, .int .i64 c.Delta, .slice a n cp] 163 :: Res.own 3 1 (.slice a n cp) n (List.flatMap (fun (y : Int) => [Go.Value.int .i64 y]) ys) :: L) w3) wz_ := ⟨_, hp5⟩
  refine QOPS.batch 13 { wraps := [23] } [.agg #[.int .i64 c.N, .int .i64 c.K, .int .i64 c.Delta], .agg #[.int .i64 c.N, .int .i64 c.K, .int .i64 c.Delta]] [0, 1, 23] [.pointer (some ⟨q, 0, none⟩), .pointer (some ⟨q, 0, none⟩), .bool (!((decide (c.N = c.N)) && ((decide (c.K = c.K)) && ((decide (c.Delta = c.Delta)) && true))))] hnehp5 (fun w6 hp7 => QB.mk (.cons (show Ld Try.prog w6 60 ⟨q, 0, none⟩ (.agg #[.int .i64 c.N, .int .i64 c.K, .int .i64 c.Delta]) from Ld.rowN (cs := [.int .i64 c.N, .int .i64 c.K, .int .i64 c.Delta]) hp7.get0 (by kernel_rfl)) (.cons (show Ld Try.prog w6 60 ⟨q, 0, none⟩ (.agg #[.int .i64 c.N, .int .i64 c.K, .int .i64 c.Delta]) from Ld.rowN (cs := [.int .i64 c.N, .int .i64 c.K, .int .i64 c.Delta]) hp7.get0 (by kernel_rfl)) .nil)) (by kernel_rfl)) (fun b8 => ?_)
  refine QOPS.nil (fun w9 hp10 => ?_)
  refine thn_n ?_
  refine WP.test (p := ¬ ((c.N = c.N) ∧ ((c.K = c.K) ∧ (c.Delta = c.Delta)))) rfl (Bp.not (Bp.band Bp.dec (Bp.band Bp.dec (Bp.band1 Bp.dec)))) (fun h11 => ?_) (fun h11 => ?_)
  · refine WP.seq ?_
    refine WP.pure {} [] [4, 5] [.pointer none, .int .i64 1] .nil (by kernel_rfl) (fun b12 => ?_)
    refine thn_n ?_
    refine WP.ret ?_
    refine thn_r ?_
    refine bodyQ.of _ rfl [.pointer none, .int .i64 1] ⟨rfl, rfl, trivial⟩ ?_
    exfalso
    exact h11 ⟨rfl, rfl, rfl⟩
  · replace h11 := Classical.not_not.1 h11
    refine WP.skip ?_
    refine thn_n ?_
    refine WP.seq ?_
    refine WP.region _ rfl (by kernel_rfl) ?_
    refine OPS.batch 5 {} [.agg #[.int .i64 c.N, .int .i64 c.K, .int .i64 c.Delta]] [0, 1, 28] [.pointer (some ⟨q, 0, none⟩), .pointer (some ⟨q, 0, none⟩), .agg #[.int .i64 c.N, .int .i64 c.K, .int .i64 c.Delta, .slice none 0 0]] (.cons (show Ld Try.prog w9 60 ⟨q, 0, none⟩ (.agg #[.int .i64 c.N, .int .i64 c.K, .int .i64 c.Delta]) from Ld.rowN (cs := [.int .i64 c.N, .int .i64 c.K, .int .i64 c.Delta]) hp10.get0 (by kernel_rfl)) .nil) (by kernel_rfl) (fun b13 => ?_)
    refine OPS.cons (opStep.box hp10 [.int .i64 c.N, .int .i64 c.K, .int .i64 c.Delta, .slice none 0 0] (by kernel_rfl) (fun g16 w14 hp15 => ?_))
    refine OPS.batch 1 {} [] [0, 1, 6] [.pointer (some ⟨q, 0, none⟩), .pointer (some ⟨q, 0, none⟩), .pointer (some ⟨g16, 0, none⟩)] .nil (by kernel_rfl) (fun b17 => ?_)
    refine OPS.nil ?_
    refine thn_n ?_
    refine WP.seq ?_
    refine WP.seq ?_
    refine WP.pure {} [.slice a n cp] [1, 6, 33, 34, 35] [.pointer (some ⟨q, 0, none⟩), .pointer (some ⟨g16, 0, none⟩), .slice a n cp, .int .i64 ((n : Nat) : Int), .int .i64 0] (.cons (Ld.row1 (P := Try.prog) (t := 36) (o := 3) (v := .slice a n cp) hp15.get1 (by kernel_rfl)) .nil) (by kernel_rfl) (fun b18 => ?_)
    refine thn_n ?_
    refine WP.block ?_
    have hp19 := (show Hp w0 Non (Res.own 3 1 (.slice none 0 0) 0 (List.flatMap (fun (y : Int) => [Go.Value.int .i64 y]) ([] : List Int)) :: Res.row g16 [.int .i64 c.N, .int .i64 c.K, .int .i64 c.Delta, .slice none 0 0] 163 :: Res.row q [.int .i64 c.N, .int .i64 c.K, .int .i64 c.Delta, .slice a n cp] 163 :: Res.own 3 1 (.slice a n cp) n (List.flatMap (fun (y : Int) => [Go.Value.int .i64 y]) ys) :: L) w14 from hp15.nilOwn 3 1)
    refine WP.loop (fun mz_ e20 w21 => ∃ (k : Nat) (ts : List Int) (ta : Option Addr) (nt : Nat) (ct : Nat), mz_ = ys.length - k ∧ (k ≤ ys.length ∧ ts = (ys.take k).filter (fun y => o.testBit y.toNat)) ∧ List.map e20 [1, 6, 33, 34, 35] = [.pointer (some ⟨q, 0, none⟩), .pointer (some ⟨g16, 0, none⟩), .slice a n cp, .int .i64 ((n : Nat) : Int), .int .i64 (k : Int)] ∧ Hp w0 Non (Res.own 3 1 (.slice ta nt ct) nt (List.flatMap (fun (y : Int) => [Go.Value.int .i64 y]) ts) :: Res.row g16 [.int .i64 c.N, .int .i64 c.K, .int .i64 c.Delta, .slice ta nt ct] 163 :: Res.row q [.int .i64 c.N, .int .i64 c.K, .int .i64 c.Delta, .slice a n cp] 163 :: Res.own 3 1 (.slice a n cp) n (List.flatMap (fun (y : Int) => [Go.Value.int .i64 y]) ys) :: L) w21) (ys.length - (0)) ⟨0, [], none, 0, 0, rfl, ⟨by omega, rfl⟩, by kernel_rfl, hp19⟩ ?_
    rintro _ e20 w21 ⟨k, ts, ta, nt, ct, rfl, hI23, hE24, hp22⟩
    obtain ⟨b25, rfl⟩ := toMk hE24
    clear hE24
    obtain ⟨pa, pb⟩ := hI23
    have pe := own_flat (sz := 1) (fun _ => rfl) (by decide) hp22.get0
    have pl : ts.length ≤ k := by rw [pb]; exact Nat.le_trans (List.length_filter_le _ _) (by rw [List.length_take]; omega)
    refine WP.seq ?_
    refine WP.pure {} [] [1, 6, 33, 34, 35, 36] [.pointer (some ⟨q, 0, none⟩), .pointer (some ⟨g16, 0, none⟩), .slice a n cp, .int .i64 ((n : Nat) : Int), .int .i64 (k : Int), .bool (decide ((k : Int) < ((n : Nat) : Int)))] .nil (by kernel_rfl) (fun b26 => ?_)
    refine thn_n ?_
    refine WP.seq ?_
    refine WP.test (p := (k : Int) < ((n : Nat) : Int)) rfl Bp.dec (fun h27 => ?_) (fun h27 => ?_)
    · refine WP.skip ?_
      refine thn_n ?_
      refine WP.seq ?_
      refine WP.block ?_
      refine WP.seq ?_
      have := own_flat (sz := 1) (fun _ => rfl) (by decide) hp22.get3
      have hy29 : (ys)[k]? = some ys[k]! := get_bang (by first | (omega) | (simp only [List.length_append, List.length_cons, List.length_nil]; omega) | (simp only [List.length_take, List.length_append, List.length_cons, List.length_nil]; omega))
      refine WP.pure {} [.int .i64 (ys[k]!)] [1, 6, 8, 33, 34, 35] [.pointer (some ⟨q, 0, none⟩), .pointer (some ⟨g16, 0, none⟩), .int .i64 (ys[k]!), .slice a n cp, .int .i64 ((n : Nat) : Int), .int .i64 (k : Int)] (.cons (show InB ((k : Int)) (n) from ⟨by omega, by omega⟩) (.cons ((SlR.own (hp22.get3)).some (by omega)) (.cons (Ld.add0 (Ld.el1 (P := Try.prog) (t := 3) (SlR.own (hp22.get3)).rd 1 (fun _ => rfl) hy29 (o := 0) (v := .int .i64 (ys[k]!)) (by kernel_rfl))) .nil))) (by kernel_rfl) (fun b30 => ?_)
      refine thn_n ?_
      refine WP.seq ?_
      refine WP.region _ rfl (by kernel_rfl) ?_
      refine OPS.batch 2 {} [] [1, 6, 8, 33, 34, 35, 39, 40] [.pointer (some ⟨q, 0, none⟩), .pointer (some ⟨g16, 0, none⟩), .int .i64 (ys[k]!), .slice a n cp, .int .i64 ((n : Nat) : Int), .int .i64 (k : Int), .pointer (some ⟨q, 0, none⟩), .int .i64 (ys[k]!)] .nil (by kernel_rfl) (fun b31 => ?_)
      have hp34 := hp22.pull3
      have hp35 := hp34.pull3
      refine OPS.cons (opStep.call (some 41) [.pointer (some ⟨q, 0, none⟩), .int .i64 (ys[k]!)] (by kernel_rfl) (r_Has _ _ q c o ys a n cp _ hok hrel (ys[k]!) hp35) ?_)
      rintro _ w36 ⟨b39, rfl, hq38, hp37⟩
      refine ⟨_, rfl, ?_⟩
      refine OPS.nil ?_
      refine thn_n ?_
      refine WP.test (p := inN c (ys[k]!) ∧ o.testBit (ys[k]!).toNat = true) rfl hq38 (fun h40 => ?_) (fun h40 => ?_)
      · refine WP.region _ rfl (by kernel_rfl) ?_
        refine OPS.batch 6 {} [.slice ta nt ct] [1, 6, 33, 34, 35, 42, 46, 47] [.pointer (some ⟨q, 0, none⟩), .pointer (some ⟨g16, 0, none⟩), .slice a n cp, .int .i64 ((n : Nat) : Int), .int .i64 (k : Int), .pointer (some ⟨g16, 0, none⟩), .slice ta nt ct, .int .i64 (ys[k]!)] (.cons (Ld.row1 (P := Try.prog) (t := 36) (o := 3) (v := .slice ta nt ct) hp37.get3 (by kernel_rfl)) .nil) (by kernel_rfl) (fun b41 => ?_)
        refine OPS.cons (opStep.buildSlice (E := 3) hp37 [.int .i64 (ys[k]!)] (by kernel_rfl) (fun g44 w42 hp43 => ?_))
        refine OPS.cons (opStep.append3 [.int .i64 (ys[k]!)] hp43 8 (by kernel_rfl) rfl rfl rfl (SlR.row (n := 1) hp43.get0 rfl).rd (List.all_eq_true.1 (by kernel_rfl)) (by decide) (by omega) (by omega) (fun a47 c48 w49 hp50 hn51 => ?_))
        rw [(show List.flatMap (fun (y : Int) => [Go.Value.int .i64 y]) ts ++ [.int .i64 (ys[k]!)] = List.flatMap (fun (y : Int) => [Go.Value.int .i64 y]) (ts ++ [ys[k]!]) from (List.flatMap_append (xs := ts) (ys := [ys[k]!])).symm)] at hp50
        refine OPS.batch 2 {} [] [1, 6, 33, 34, 35, 49, 51] [.pointer (some ⟨q, 0, none⟩), .pointer (some ⟨g16, 0, none⟩), .slice a n cp, .int .i64 ((n : Nat) : Int), .int .i64 (k : Int), .slice a47 (nt + 1) c48, .pointer (some ⟨g16, 3, none⟩)] .nil (by kernel_rfl) (fun b52 => ?_)
        refine OPS.cons (opStep.store4 hp50 rfl [.slice a47 (nt + 1) c48] [.int .i64 c.N, .int .i64 c.K, .int .i64 c.Delta, .slice a47 (nt + 1) c48] (by kernel_rfl) (fun w53 hp54 => ?_))
        refine OPS.nil ?_
        refine blk_n ?_
        refine thn_n ?_
        refine WP.pure {} [] [1, 6, 33, 34, 35] [.pointer (some ⟨q, 0, none⟩), .pointer (some ⟨g16, 0, none⟩), .slice a n cp, .int .i64 ((n : Nat) : Int), .int .i64 ((k : Int) + 1)] (.cons (show Rng .i64 ((k : Int) + 1) from Rng.i64 (by omega)) .nil) (by kernel_rfl) (fun b55 => ?_)
        refine thn_n ?_
        exact ⟨ys.length - (k + 1), (by omega), k + 1, ts ++ [ys[k]!], a47, nt + 1, c48, rfl, ⟨by omega, (fil_stp (P := fun y => o.testBit y.toNat) (by omega) pb).1 (by exact h40.2)⟩, by kernel_rfl, (((((hp54.pull2).pull2).pull4).pull4).sub (.cons_cons _ (.cons_cons _ (.cons_cons _ (.cons_cons _ (.cons _ (.refl _)))))))⟩
      · refine WP.skip ?_
        refine blk_n ?_
        refine thn_n ?_
        refine WP.pure {} [] [1, 6, 33, 34, 35] [.pointer (some ⟨q, 0, none⟩), .pointer (some ⟨g16, 0, none⟩), .slice a n cp, .int .i64 ((n : Nat) : Int), .int .i64 ((k : Int) + 1)] (.cons (show Rng .i64 ((k : Int) + 1) from Rng.i64 (by omega)) .nil) (by kernel_rfl) (fun b56 => ?_)
        refine thn_n ?_
        exact ⟨ys.length - (k + 1), (by omega), k + 1, ts, ta, nt, ct, rfl, ⟨by omega, (fil_stp (P := fun y => o.testBit y.toNat) (by omega) pb).2 (by exact fun z => h40 ⟨hrel.2.1 _ (List.mem_of_getElem? (get_bang (by omega))), z⟩)⟩, by kernel_rfl, (((((hp37.pull1).pull1).pull3).pull3).sub (.cons_cons _ (.cons_cons _ (.cons_cons _ (.cons_cons _ (.refl _))))))⟩
    · refine WP.exit ?_
      refine thn_x ?_
      refine thn_x ?_
      refine blk_hit ?_
      refine thn_n ?_
      refine WP.seq ?_
      refine WP.pure {} [] [4, 5] [.pointer (some ⟨g16, 0, none⟩), .int .i64 0] .nil (by kernel_rfl) (fun b57 => ?_)
      refine thn_n ?_
      refine WP.ret ?_
      refine bodyQ.of _ rfl [.pointer (some ⟨g16, 0, none⟩), .int .i64 0] ⟨rfl, rfl, trivial⟩ ?_
      have hkn : k = ys.length := by omega
      rw [hkn, List.take_length] at pb
      subst pb
      exact ⟨_, _, _, _, rfl, (((((hp22.pull3).pull3).pull2).pull3).sub (.cons_cons _ (.cons_cons _ (.cons_cons _ (.cons_cons _ (.refl _))))))⟩

theorem q_Copy (w0 : World) (L : List Res) (b : Nat) (c : GConfig) (m : Nat) (w : World) (hok : okCfg c) (hp0 : Hp w0 Non (Res.row b [.int .i64 c.N, .int .i64 c.K, .int .i64 c.Delta, .int .u64 ((wd m 0 : Nat) : Int), .int .u64 ((wd m 1 : Nat) : Int), .int .u64 ((wd m 2 : Nat) : Int), .int .u64 ((wd m 3 : Nat) : Int)] 133 :: L) w) :
    Calls Try.prog 92 #[.pointer (some ⟨b, 0, none⟩)] w (fun r_ w' => ∃ b', r_ = .returned (.pointer (some ⟨b', 0, none⟩)) ∧ Hp w0 Non (Res.row b' [.int .i64 c.N, .int .i64 c.K, .int .i64 c.Delta, .int .u64 ((wd m 0 : Nat) : Int), .int .u64 ((wd m 1 : Nat) : Int), .int .u64 ((wd m 2 : Nat) : Int), .int .u64 ((wd m 3 : Nat) : Int)] 133 :: Res.row b [.int .i64 c.N, .int .i64 c.K, .int .i64 c.Delta, .int .u64 ((wd m 0 : Nat) : Int), .int .u64 ((wd m 1 : Nat) : Int), .int .u64 ((wd m 2 : Nat) : Int), .int .u64 ((wd m 3 : Nat) : Int)] 133 :: L) w') := by
  have hok1 := hok
  unfold okCfg at hok1
  refine calls_of Try.func92 rfl 15 rfl (by simp) ?_
  have he0 : List.map (env0 [.pointer (some ⟨b, 0, none⟩)]) [0] = [.pointer (some ⟨b, 0, none⟩)] := by kernel_rfl
  obtain ⟨b0, he0⟩ := toMk he0
  rw [he0]
  clear he0
  refine WP.seq ?_
  refine WP.pure {} [] [0] [.pointer (some ⟨b, 0, none⟩)] .nil (by kernel_rfl) (fun b1 => ?_)
  refine thn_n ?_
  refine WP.seq ?_
  refine WP.seq ?_
  refine WP.pure {} [] [0, 4] [.pointer (some ⟨b, 0, none⟩), .bool false] .nil (by kernel_rfl) (fun b2 => ?_)
  refine thn_n ?_
  refine WP.condF rfl ?_
  refine WP.skip ?_
  refine thn_n ?_
  refine WP.seq ?_
  have hp3 := hp0.drew
  refine WP.held (fun w4 => Ld Try.prog w4 60 ⟨b, 0, none⟩ (.agg #[.int .i64 c.N, .int .i64 c.K, .int .i64 c.Delta]) ∧ Ld Try.prog w4 131 ⟨b, 3, none⟩ (.agg #[.int .u64 ((wd m 0 : Nat) : Int), .int .u64 ((wd m 1 : Nat) : Int), .int .u64 ((wd m 2 : Nat) : Int), .int .u64 ((wd m 3 : Nat) : Int)]) ∧ True) [] [(0, true), (1, true), (2, true), (3, true), (4, true), (5, true), (6, true), (7, true), (8, true), (9, false), (10, true)] (np_thn np_body) (by kernel_rfl) ?_
  refine HOPS.take 9 {} [.agg #[.int .i64 c.N, .int .i64 c.K, .int .i64 c.Delta], .agg #[.int .u64 ((wd m 0 : Nat) : Int), .int .u64 ((wd m 1 : Nat) : Int), .int .u64 ((wd m 2 : Nat) : Int), .int .u64 ((wd m 3 : Nat) : Int)]] [13] [.agg #[.int .i64 c.N, .int .i64 c.K, .int .i64 c.Delta, .int .u64 ((wd m 0 : Nat) : Int), .int .u64 ((wd m 1 : Nat) : Int), .int .u64 ((wd m 2 : Nat) : Int), .int .u64 ((wd m 3 : Nat) : Int)]] (by kernel_rfl) ⟨(show Ld Try.prog w.drew 60 ⟨b, 0, none⟩ (.agg #[.int .i64 c.N, .int .i64 c.K, .int .i64 c.Delta]) from (show Ld Try.prog w.drew 60 ⟨b, 0, none⟩ (.agg #[.int .i64 c.N, .int .i64 c.K, .int .i64 c.Delta]) from Ld.rowN (cs := [.int .i64 c.N, .int .i64 c.K, .int .i64 c.Delta]) hp3.get0 (by kernel_rfl))), (show Ld Try.prog w.drew 131 ⟨b, 3, none⟩ (.agg #[.int .u64 ((wd m 0 : Nat) : Int), .int .u64 ((wd m 1 : Nat) : Int), .int .u64 ((wd m 2 : Nat) : Int), .int .u64 ((wd m 3 : Nat) : Int)]) from (show Ld Try.prog w.drew 131 ⟨b, 3, none⟩ (.agg #[.int .u64 ((wd m 0 : Nat) : Int), .int .u64 ((wd m 1 : Nat) : Int), .int .u64 ((wd m 2 : Nat) : Int), .int .u64 ((wd m 3 : Nat) : Int)]) from Ld.rowN (cs := [.int .u64 ((wd m 0 : Nat) : Int), .int .u64 ((wd m 1 : Nat) : Int), .int .u64 ((wd m 2 : Nat) : Int), .int .u64 ((wd m 3 : Nat) : Int)]) hp3.get0 (by kernel_rfl))), trivial⟩ (fun w5 hS6 => QB.mk (.cons (hS6.1) (.cons (hS6.2.1) .nil)) (by kernel_rfl)) (fun b7 => ?_)
  refine HOPS.eff _ rfl (opStep.box hp3 [.int .i64 c.N, .int .i64 c.K, .int .i64 c.Delta, .int .u64 ((wd m 0 : Nat) : Int), .int .u64 ((wd m 1 : Nat) : Int), .int .u64 ((wd m 2 : Nat) : Int), .int .u64 ((wd m 3 : Nat) : Int)] (by kernel_rfl) (fun g10 w8 hp9 => ?_))
  refine ⟨.inr ⟨(show Ld Try.prog w8 60 ⟨b, 0, none⟩ (.agg #[.int .i64 c.N, .int .i64 c.K, .int .i64 c.Delta]) from (show Ld Try.prog w8 60 ⟨b, 0, none⟩ (.agg #[.int .i64 c.N, .int .i64 c.K, .int .i64 c.Delta]) from Ld.rowN (cs := [.int .i64 c.N, .int .i64 c.K, .int .i64 c.Delta]) hp9.get1 (by kernel_rfl))), (show Ld Try.prog w8 131 ⟨b, 3, none⟩ (.agg #[.int .u64 ((wd m 0 : Nat) : Int), .int .u64 ((wd m 1 : Nat) : Int), .int .u64 ((wd m 2 : Nat) : Int), .int .u64 ((wd m 3 : Nat) : Int)]) from (show Ld Try.prog w8 131 ⟨b, 3, none⟩ (.agg #[.int .u64 ((wd m 0 : Nat) : Int), .int .u64 ((wd m 1 : Nat) : Int), .int .u64 ((wd m 2 : Nat) : Int), .int .u64 ((wd m 3 : Nat) : Int)]) from Ld.rowN (cs := [.int .u64 ((wd m 0 : Nat) : Int), .int .u64 ((wd m 1 : Nat) : Int), .int .u64 ((wd m 2 : Nat) : Int), .int .u64 ((wd m 3 : Nat) : Int)]) hp9.get1 (by kernel_rfl))), trivial⟩, ?_⟩
  refine HOPS.take 1 {} [] [2] [.pointer (some ⟨g10, 0, none⟩)] (by kernel_rfl) ⟨(show Ld Try.prog w8 60 ⟨b, 0, none⟩ (.agg #[.int .i64 c.N, .int .i64 c.K, .int .i64 c.Delta]) from (show Ld Try.prog w8 60 ⟨b, 0, none⟩ (.agg #[.int .i64 c.N, .int .i64 c.K, .int .i64 c.Delta]) from Ld.rowN (cs := [.int .i64 c.N, .int .i64 c.K, .int .i64 c.Delta]) hp9.get1 (by kernel_rfl))), (show Ld Try.prog w8 131 ⟨b, 3, none⟩ (.agg #[.int .u64 ((wd m 0 : Nat) : Int), .int .u64 ((wd m 1 : Nat) : Int), .int .u64 ((wd m 2 : Nat) : Int), .int .u64 ((wd m 3 : Nat) : Int)]) from (show Ld Try.prog w8 131 ⟨b, 3, none⟩ (.agg #[.int .u64 ((wd m 0 : Nat) : Int), .int .u64 ((wd m 1 : Nat) : Int), .int .u64 ((wd m 2 : Nat) : Int), .int .u64 ((wd m 3 : Nat) : Int)]) from Ld.rowN (cs := [.int .u64 ((wd m 0 : Nat) : Int), .int .u64 ((wd m 1 : Nat) : Int), .int .u64 ((wd m 2 : Nat) : Int), .int .u64 ((wd m 3 : Nat) : Int)]) hp9.get1 (by kernel_rfl))), trivial⟩ (fun w11 hS12 => QB.mk .nil (by kernel_rfl)) (fun b13 => ?_)
  refine HOPS.nil ?_
  refine thn_n ?_
  refine WP.ret ?_
  refine bodyQ.of _ rfl [.pointer (some ⟨g10, 0, none⟩)] ⟨rfl, trivial⟩ ?_
  exact ⟨_, rfl, hp9⟩

theorem q_Copy_nil (w : World) :
    Calls Try.prog 92 #[.pointer none] w (fun r_ w' => r_ = .returned (.pointer none) ∧ Fram Non w w') := by
  refine calls_of Try.func92 rfl 15 rfl (by simp) ?_
  have hp0 := Hp.init w
  have he0 : List.map (env0 [.pointer none]) [0] = [.pointer none] := by kernel_rfl
  obtain ⟨b0, he0⟩ := toMk he0
  rw [he0]
  clear he0
  refine WP.seq ?_
  refine WP.pure {} [] [0] [.pointer none] .nil (by kernel_rfl) (fun b1 => ?_)
  refine thn_n ?_
  refine WP.seq ?_
  refine WP.seq ?_
  refine WP.pure {} [] [0, 4] [.pointer none, .bool true] .nil (by kernel_rfl) (fun b2 => ?_)
  refine thn_n ?_
  refine WP.condT rfl ?_
  refine WP.seq ?_
  refine WP.pure {} [] [2] [.pointer none] .nil (by kernel_rfl) (fun b3 => ?_)
  refine thn_n ?_
  refine WP.ret ?_
  refine thn_r ?_
  refine bodyQ.of _ rfl [.pointer none] ⟨rfl, trivial⟩ ?_
  exact ⟨rfl, hp0.fr⟩

theorem q_Add_nil (w : World) (x : Int) :
    Calls Try.prog 36 #[.pointer none, .int .i64 x] w (fun r_ w' => r_ = .returned (.tuple #[.bool false, .int .i64 0]) ∧ Fram Non w w') := by
  refine calls_of Try.func36 rfl 35 rfl (by simp) ?_
  have hp0 := Hp.init w
  have he0 : List.map (env0 [.pointer none, .int .i64 x]) [0, 1] = [.pointer none, .int .i64 x] := by kernel_rfl
  obtain ⟨b0, he0⟩ := toMk he0
  rw [he0]
  clear he0
  refine WP.seq ?_
  refine WP.pure {} [] [0, 1] [.pointer none, .int .i64 x] .nil (by kernel_rfl) (fun b1 => ?_)
  refine thn_n ?_
  refine WP.seq ?_
  refine WP.seq ?_
  refine WP.pure {} [] [0, 1, 8] [.pointer none, .int .i64 x, .bool true] .nil (by kernel_rfl) (fun b2 => ?_)
  refine thn_n ?_
  refine WP.condT rfl ?_
  refine WP.seq ?_
  refine WP.pure {} [] [4, 5] [.bool false, .int .i64 0] .nil (by kernel_rfl) (fun b3 => ?_)
  refine thn_n ?_
  refine WP.ret ?_
  refine thn_r ?_
  refine bodyQ.of _ rfl [.bool false, .int .i64 0] ⟨rfl, rfl, trivial⟩ ?_
  exact ⟨rfl, hp0.fr⟩

theorem q_Has_nil (w : World) (x : Int) :
    Calls Try.prog 37 #[.pointer none, .int .i64 x] w (fun r_ w' => r_ = .returned (.bool false) ∧ Fram Non w w') := by
  refine calls_of Try.func37 rfl 20 rfl (by simp) ?_
  have hp0 := Hp.init w
  have he0 : List.map (env0 [.pointer none, .int .i64 x]) [0, 1] = [.pointer none, .int .i64 x] := by kernel_rfl
  obtain ⟨b0, he0⟩ := toMk he0
  rw [he0]
  clear he0
  refine WP.seq ?_
  refine WP.pure {} [] [0, 1] [.pointer none, .int .i64 x] .nil (by kernel_rfl) (fun b1 => ?_)
  refine thn_n ?_
  refine WP.seq ?_
  refine WP.pure { wraps := [11, 19] } [] [4] [.bool false] .nil (by kernel_rfl) (fun b2 => ?_)
  refine thn_n ?_
  refine WP.ret ?_
  refine bodyQ.of _ rfl [.bool false] ⟨rfl, trivial⟩ ?_
  exact ⟨rfl, hp0.fr⟩

theorem q_Len_nil (w : World) :
    Calls Try.prog 42 #[.pointer none] w (fun r_ w' => r_ = .returned (.int .i64 0) ∧ Fram Non w w') := by
  refine calls_of Try.func42 rfl 21 rfl (by simp) ?_
  have hp0 := Hp.init w
  have he0 : List.map (env0 [.pointer none]) [0] = [.pointer none] := by kernel_rfl
  obtain ⟨b0, he0⟩ := toMk he0
  rw [he0]
  clear he0
  refine WP.seq ?_
  refine WP.pure {} [] [0] [.pointer none] .nil (by kernel_rfl) (fun b1 => ?_)
  refine thn_n ?_
  refine WP.seq ?_
  refine WP.pure {} [] [0, 3] [.pointer none, .int .i64 0] .nil (by kernel_rfl) (fun b2 => ?_)
  refine thn_n ?_
  refine WP.seq ?_
  refine WP.seq ?_
  refine WP.pure {} [] [0, 3, 7] [.pointer none, .int .i64 0, .bool false] .nil (by kernel_rfl) (fun b3 => ?_)
  refine thn_n ?_
  refine WP.condF rfl ?_
  refine WP.skip ?_
  refine thn_n ?_
  refine WP.seq ?_
  refine WP.pure {} [] [2] [.int .i64 0] .nil (by kernel_rfl) (fun b4 => ?_)
  refine thn_n ?_
  refine WP.ret ?_
  refine bodyQ.of _ rfl [.int .i64 0] ⟨rfl, trivial⟩ ?_
  exact ⟨rfl, hp0.fr⟩

theorem q_Met_nil (w : World) :
    Calls Try.prog 41 #[.pointer none] w (fun r_ w' => r_ = .returned (.bool false) ∧ Fram Non w w') := by
  refine calls_of Try.func41 rfl 19 rfl (by simp) ?_
  have hp0 := Hp.init w
  have he0 : List.map (env0 [.pointer none]) [0] = [.pointer none] := by kernel_rfl
  obtain ⟨b0, he0⟩ := toMk he0
  rw [he0]
  clear he0
  refine WP.seq ?_
  refine WP.pure {} [] [0] [.pointer none] .nil (by kernel_rfl) (fun b1 => ?_)
  refine thn_n ?_
  refine WP.seq ?_
  refine WP.seq ?_
  refine WP.pure {} [] [0, 6] [.pointer none, .bool true] .nil (by kernel_rfl) (fun b2 => ?_)
  refine thn_n ?_
  refine WP.condT rfl ?_
  refine WP.seq ?_
  refine WP.pure {} [] [2] [.bool false] .nil (by kernel_rfl) (fun b3 => ?_)
  refine thn_n ?_
  refine WP.ret ?_
  refine thn_r ?_
  refine bodyQ.of _ rfl [.bool false] ⟨rfl, trivial⟩ ?_
  exact ⟨rfl, hp0.fr⟩

theorem q_And_snil (w : World) (o : Option Addr) :
    Calls Try.prog 57 #[.pointer none, .pointer o] w (fun r_ w' => r_ = .returned (.tuple #[.pointer none, .int .i64 0]) ∧ Fram Non w w') := by
  refine calls_of Try.func57 rfl 54 rfl (by simp) ?_
  have hp0 := Hp.init w
  have he0 : List.map (env0 [.pointer none, .pointer o]) [0, 1] = [.pointer none, .pointer o] := by kernel_rfl
  obtain ⟨b0, he0⟩ := toMk he0
  rw [he0]
  clear he0
  refine WP.seq ?_
  refine WP.pure {} [] [0, 1] [.pointer none, .pointer o] .nil (by kernel_rfl) (fun b1 => ?_)
  refine thn_n ?_
  refine WP.seq ?_
  refine WP.seq ?_
  refine WP.pure {} [] [0, 1, 9] [.pointer none, .pointer o, .bool true] .nil (by kernel_rfl) (fun b2 => ?_)
  refine thn_n ?_
  refine WP.condT rfl ?_
  refine WP.seq ?_
  refine WP.pure {} [] [4, 5] [.pointer none, .int .i64 0] .nil (by kernel_rfl) (fun b3 => ?_)
  refine thn_n ?_
  refine WP.ret ?_
  refine thn_r ?_
  refine bodyQ.of _ rfl [.pointer none, .int .i64 0] ⟨rfl, rfl, trivial⟩ ?_
  exact ⟨rfl, hp0.fr⟩

theorem q_And_onil (w0 : World) (L : List Res) (b : Nat) (c : GConfig) (m : Nat) (w : World) (hok : okCfg c) (hp0 : Hp w0 Non (Res.row b [.int .i64 c.N, .int .i64 c.K, .int .i64 c.Delta, .int .u64 ((wd m 0 : Nat) : Int), .int .u64 ((wd m 1 : Nat) : Int), .int .u64 ((wd m 2 : Nat) : Int), .int .u64 ((wd m 3 : Nat) : Int)] 133 :: L) w) :
    Calls Try.prog 57 #[.pointer (some ⟨b, 0, none⟩), .pointer none] w (fun r_ w' => r_ = .returned (.tuple #[.pointer none, .int .i64 1]) ∧ Hp w0 Non (Res.row b [.int .i64 c.N, .int .i64 c.K, .int .i64 c.Delta, .int .u64 ((wd m 0 : Nat) : Int), .int .u64 ((wd m 1 : Nat) : Int), .int .u64 ((wd m 2 : Nat) : Int), .int .u64 ((wd m 3 : Nat) : Int)] 133 :: L) w') := by
  have hok1 := hok
  unfold okCfg at hok1
  refine calls_of Try.func57 rfl 54 rfl (by simp) ?_
  have he0 : List.map (env0 [.pointer (some ⟨b, 0, none⟩), .pointer none]) [0, 1] = [.pointer (some ⟨b, 0, none⟩), .pointer none] := by kernel_rfl
  obtain ⟨b0, he0⟩ := toMk he0
  rw [he0]
  clear he0
  refine WP.seq ?_
  refine WP.pure {} [] [0, 1] [.pointer (some ⟨b, 0, none⟩), .pointer none] .nil (by kernel_rfl) (fun b1 => ?_)
  refine thn_n ?_
  refine WP.seq ?_
  refine WP.seq ?_
  refine WP.pure {} [] [0, 1, 9] [.pointer (some ⟨b, 0, none⟩), .pointer none, .bool false] .nil (by kernel_rfl) (fun b2 => ?_)
  refine thn_n ?_
  refine WP.condF rfl ?_
  refine WP.skip ?_
  refine thn_n ?_
  refine WP.seq ?_
  refine WP.seq ?_
  have hp5 := hp0.drew
  refine WP.quiet (fun w3 => Hp w0 Non (Res.row b [.int .i64 c.N, .int .i64 c.K, .int .i64 c.Delta, .int .u64 ((wd m 0 : Nat) : Int), .int .u64 ((wd m 1 : Nat) : Int), .int .u64 ((wd m 2 : Nat) : Int), .int .u64 ((wd m 3 : Nat) : Int)] 133 :: L) w3) (by kernel_rfl) hp5 ?_
  have hnehp5 : ∃ wz_, (fun w3 => Hp w0 Non (Res.row b [.int .i64 c.N, .int .i64 c.K, .int .i64 c.Delta, .int .u64 ((wd m 0 : Nat) : Int), .int .u64 ((wd m 1 : Nat) : Int), .int .u64 ((wd m 2 : Nat) : Int), .int .u64 ((wd m 3 : Nat) : Int)] 133 :: L) w3) wz_ := ⟨_, hp5⟩
  refine QOPS.batch 13 { wraps := [22] } [] [0, 1, 22] [.pointer (some ⟨b, 0, none⟩), .pointer none, .bool true] hnehp5 (fun w6 hp7 => QB.mk .nil (by kernel_rfl)) (fun b8 => ?_)
  refine QOPS.nil (fun w9 hp10 => ?_)
  refine thn_n ?_
  refine WP.condT rfl ?_
  refine WP.seq ?_
  refine WP.pure {} [] [4, 5] [.pointer none, .int .i64 1] .nil (by kernel_rfl) (fun b11 => ?_)
  refine thn_n ?_
  refine WP.ret ?_
  refine thn_r ?_
  refine bodyQ.of _ rfl [.pointer none, .int .i64 1] ⟨rfl, rfl, trivial⟩ ?_
  exact ⟨rfl, hp10⟩

theorem q_And_ne (w0 : World) (L : List Res) (b : Nat) (c : GConfig) (m : Nat) (bo : Nat) (c2 : GConfig) (o : Nat) (w : World) (hok : okCfg c) (hne : ¬ (c2.N = c.N ∧ c2.K = c.K ∧ c2.Delta = c.Delta)) (hp0 : Hp w0 Non (Res.row b [.int .i64 c.N, .int .i64 c.K, .int .i64 c.Delta, .int .u64 ((wd m 0 : Nat) : Int), .int .u64 ((wd m 1 : Nat) : Int), .int .u64 ((wd m 2 : Nat) : Int), .int .u64 ((wd m 3 : Nat) : Int)] 133 :: Res.row bo [.int .i64 c2.N, .int .i64 c2.K, .int .i64 c2.Delta, .int .u64 ((wd o 0 : Nat) : Int), .int .u64 ((wd o 1 : Nat) : Int), .int .u64 ((wd o 2 : Nat) : Int), .int .u64 ((wd o 3 : Nat) : Int)] 133 :: L) w) :
    Calls Try.prog 57 #[.pointer (some ⟨b, 0, none⟩), .pointer (some ⟨bo, 0, none⟩)] w (fun r_ w' => r_ = .returned (.tuple #[.pointer none, .int .i64 1]) ∧ Hp w0 Non (Res.row b [.int .i64 c.N, .int .i64 c.K, .int .i64 c.Delta, .int .u64 ((wd m 0 : Nat) : Int), .int .u64 ((wd m 1 : Nat) : Int), .int .u64 ((wd m 2 : Nat) : Int), .int .u64 ((wd m 3 : Nat) : Int)] 133 :: Res.row bo [.int .i64 c2.N, .int .i64 c2.K, .int .i64 c2.Delta, .int .u64 ((wd o 0 : Nat) : Int), .int .u64 ((wd o 1 : Nat) : Int), .int .u64 ((wd o 2 : Nat) : Int), .int .u64 ((wd o 3 : Nat) : Int)] 133 :: L) w') := by
  have hok1 := hok
  unfold okCfg at hok1
  refine calls_of Try.func57 rfl 54 rfl (by simp) ?_
  have he0 : List.map (env0 [.pointer (some ⟨b, 0, none⟩), .pointer (some ⟨bo, 0, none⟩)]) [0, 1] = [.pointer (some ⟨b, 0, none⟩), .pointer (some ⟨bo, 0, none⟩)] := by kernel_rfl
  obtain ⟨b0, he0⟩ := toMk he0
  rw [he0]
  clear he0
  refine WP.seq ?_
  refine WP.pure {} [] [0, 1] [.pointer (some ⟨b, 0, none⟩), .pointer (some ⟨bo, 0, none⟩)] .nil (by kernel_rfl) (fun b1 => ?_)
  refine thn_n ?_
  refine WP.seq ?_
  refine WP.seq ?_
  refine WP.pure {} [] [0, 1, 9] [.pointer (some ⟨b, 0, none⟩), .pointer (some ⟨bo, 0, none⟩), .bool false] .nil (by kernel_rfl) (fun b2 => ?_)
  refine thn_n ?_
  refine WP.condF rfl ?_
  refine WP.skip ?_
  refine thn_n ?_
  refine WP.seq ?_
  refine WP.seq ?_
  have hp5 := hp0.drew
  refine WP.quiet (fun w3 => Hp w0 Non (Res.row b [.int .i64 c.N, .int .i64 c.K, .int .i64 c.Delta, .int .u64 ((wd m 0 : Nat) : Int), .int .u64 ((wd m 1 : Nat) : Int), .int .u64 ((wd m 2 : Nat) : Int), .int .u64 ((wd m 3 : Nat) : Int)] 133 :: Res.row bo [.int .i64 c2.N, .int .i64 c2.K, .int .i64 c2.Delta, .int .u64 ((wd o 0 : Nat) : Int), .int .u64 ((wd o 1 : Nat) : Int), .int .u64 ((wd o 2 : Nat) : Int), .int .u64 ((wd o 3 : Nat) : Int)] 133 :: L) w3) (by kernel_rfl) hp5 ?_
  have hnehp5 : ∃ wz_, (fun w3 => Hp w0 Non (Res.row b [.int .i64 c.N, .int .i64 c.K, .int .i64 c.Delta, .int .u64 ((wd m 0 : Nat) : Int), .int .u64 ((wd m 1 : Nat) : Int), .int .u64 ((wd m 2 : Nat) : Int), .int .u64 ((wd m 3 : Nat) : Int)] 133 :: Res.row bo [.int .i64 c2.N, .int .i64 c2.K, .int .i64 c2.Delta, .int .u64 ((wd o 0 : Nat) : Int), .int .u64 ((wd o 1 : Nat) : Int), .int .u64 ((wd o 2 : Nat) : Int), .int .u64 ((wd o 3 : Nat) : Int)] 133 :: L) w3) wz_ := ⟨_, hp5⟩
  refine QOPS.batch 13 { wraps := [22] } [.agg #[.int .i64 c2.N, .int .i64 c2.K, .int .i64 c2.Delta], .agg #[.int .i64 c.N, .int .i64 c.K, .int .i64 c.Delta]] [0, 1, 22] [.pointer (some ⟨b, 0, none⟩), .pointer (some ⟨bo, 0, none⟩), .bool (!((decide (c2.N = c.N)) && ((decide (c2.K = c.K)) && ((decide (c2.Delta = c.Delta)) && true))))] hnehp5 (fun w6 hp7 => QB.mk (.cons (show Ld Try.prog w6 60 ⟨bo, 0, none⟩ (.agg #[.int .i64 c2.N, .int .i64 c2.K, .int .i64 c2.Delta]) from Ld.rowN (cs := [.int .i64 c2.N, .int .i64 c2.K, .int .i64 c2.Delta]) hp7.get1 (by kernel_rfl)) (.cons (show Ld Try.prog w6 60 ⟨b, 0, none⟩ (.agg #[.int .i64 c.N, .int .i64 c.K, .int .i64 c.Delta]) from Ld.rowN (cs := [.int .i64 c.N, .int .i64 c.K, .int .i64 c.Delta]) hp7.get0 (by kernel_rfl)) .nil)) (by kernel_rfl)) (fun b8 => ?_)
  refine QOPS.nil (fun w9 hp10 => ?_)
  refine thn_n ?_
  refine WP.test (p := ¬ ((c2.N = c.N) ∧ ((c2.K = c.K) ∧ (c2.Delta = c.Delta)))) rfl (Bp.not (Bp.band Bp.dec (Bp.band Bp.dec (Bp.band1 Bp.dec)))) (fun h11 => ?_) (fun h11 => ?_)
  · refine WP.seq ?_
    refine WP.pure {} [] [4, 5] [.pointer none, .int .i64 1] .nil (by kernel_rfl) (fun b12 => ?_)
    refine thn_n ?_
    refine WP.ret ?_
    refine thn_r ?_
    refine bodyQ.of _ rfl [.pointer none, .int .i64 1] ⟨rfl, rfl, trivial⟩ ?_
    exact ⟨rfl, hp10⟩
  · replace h11 := Classical.not_not.1 h11
    refine WP.skip ?_
    refine thn_n ?_
    refine WP.seq ?_
    exact absurd (show c2.N = c.N ∧ c2.K = c.K ∧ c2.Delta = c.Delta from h11) hne

theorem q_AndSelf (w0 : World) (L : List Res) (b : Nat) (c : GConfig) (m : Nat) (w : World) (hok : okCfg c) (hp0 : Hp w0 Non (Res.row b [.int .i64 c.N, .int .i64 c.K, .int .i64 c.Delta, .int .u64 ((wd m 0 : Nat) : Int), .int .u64 ((wd m 1 : Nat) : Int), .int .u64 ((wd m 2 : Nat) : Int), .int .u64 ((wd m 3 : Nat) : Int)] 133 :: L) w) :
    Calls Try.prog 57 #[.pointer (some ⟨b, 0, none⟩), .pointer (some ⟨b, 0, none⟩)] w (fun r_ w' => ∃ b', r_ = .returned (.tuple #[.pointer (some ⟨b', 0, none⟩), .int .i64 0]) ∧ Hp w0 Non (Res.row b' [.int .i64 c.N, .int .i64 c.K, .int .i64 c.Delta, .int .u64 ((wd (m &&& m) 0 : Nat) : Int), .int .u64 ((wd (m &&& m) 1 : Nat) : Int), .int .u64 ((wd (m &&& m) 2 : Nat) : Int), .int .u64 ((wd (m &&& m) 3 : Nat) : Int)] 133 :: Res.row b [.int .i64 c.N, .int .i64 c.K, .int .i64 c.Delta, .int .u64 ((wd m 0 : Nat) : Int), .int .u64 ((wd m 1 : Nat) : Int), .int .u64 ((wd m 2 : Nat) : Int), .int .u64 ((wd m 3 : Nat) : Int)] 133 :: L) w') := by
  have hok1 := hok
  unfold okCfg at hok1
  refine calls_of Try.func57 rfl 54 rfl (by simp) ?_
  have he0 : List.map (env0 [.pointer (some ⟨b, 0, none⟩), .pointer (some ⟨b, 0, none⟩)]) [0, 1] = [.pointer (some ⟨b, 0, none⟩), .pointer (some ⟨b, 0, none⟩)] := by kernel_rfl
  obtain ⟨b0, he0⟩ := toMk he0
  rw [he0]
  clear he0
  refine WP.seq ?_
  refine WP.pure {} [] [0, 1] [.pointer (some ⟨b, 0, none⟩), .pointer (some ⟨b, 0, none⟩)] .nil (by kernel_rfl) (fun b1 => ?_)
  refine thn_n ?_
  refine WP.seq ?_
  refine WP.seq ?_
  refine WP.pure {} [] [0, 1, 9] [.pointer (some ⟨b, 0, none⟩), .pointer (some ⟨b, 0, none⟩), .bool false] .nil (by kernel_rfl) (fun b2 => ?_)
  refine thn_n ?_
  refine WP.condF rfl ?_
  refine WP.skip ?_
  refine thn_n ?_
  refine WP.seq ?_
  refine WP.seq ?_
  have hp5 := hp0.drew
  refine WP.quiet (fun w3 => Hp w0 Non (Res.row b [.int .i64 c.N, .int .i64 c.K, .int .i64 c.Delta, .int .u64 ((wd m 0 : Nat) : Int), .int .u64 ((wd m 1 : Nat) : Int), .int .u64 ((wd m 2 : Nat) : Int), .int .u64 ((wd m 3 : Nat) : Int)] 133 :: L) w3) (by kernel_rfl) hp5 ?_
  have hnehp5 : ∃ wz_, (fun w3 => Hp w0 Non (Res.row b [.int .i64 c.N, .int .i64 c.K, .int .i64 c.Delta, .int .u64 ((wd m 0 : Nat) : Int), .int .u64 ((wd m 1 : Nat) : Int), .int .u64 ((wd m 2 : Nat) : Int), .int .u64 ((wd m 3 : Nat) : Int)] 133 :: L) w3) wz_ := ⟨_, hp5⟩
  refine QOPS.batch 13 { wraps := [22] } [.agg #[.int .i64 c.N, .int .i64 c.K, .int .i64 c.Delta], .agg #[.int .i64 c.N, .int .i64 c.K, .int .i64 c.Delta]] [0, 1, 22] [.pointer (some ⟨b, 0, none⟩), .pointer (some ⟨b, 0, none⟩), .bool (!((decide (c.N = c.N)) && ((decide (c.K = c.K)) && ((decide (c.Delta = c.Delta)) && true))))] hnehp5 (fun w6 hp7 => QB.mk (.cons (show Ld Try.prog w6 60 ⟨b, 0, none⟩ (.agg #[.int .i64 c.N, .int .i64 c.K, .int .i64 c.Delta]) from Ld.rowN (cs := [.int .i64 c.N, .int .i64 c.K, .int .i64 c.Delta]) hp7.get0 (by kernel_rfl)) (.cons (show Ld Try.prog w6 60 ⟨b, 0, none⟩ (.agg #[.int .i64 c.N, .int .i64 c.K, .int .i64 c.Delta]) from Ld.rowN (cs := [.int .i64 c.N, .int .i64 c.K, .int .i64 c.Delta]) hp7.get0 (by kernel_rfl)) .nil)) (by kernel_rfl)) (fun b8 => ?_)
  refine QOPS.nil (fun w9 hp10 => ?_)
  refine thn_n ?_
  refine WP.test (p := ¬ ((c.N = c.N) ∧ ((c.K = c.K) ∧ (c.Delta = c.Delta)))) rfl (Bp.not (Bp.band Bp.dec (Bp.band Bp.dec (Bp.band1 Bp.dec)))) (fun h11 => ?_) (fun h11 => ?_)
  · refine WP.seq ?_
    refine WP.pure {} [] [4, 5] [.pointer none, .int .i64 1] .nil (by kernel_rfl) (fun b12 => ?_)
    refine thn_n ?_
    refine WP.ret ?_
    refine thn_r ?_
    refine bodyQ.of _ rfl [.pointer none, .int .i64 1] ⟨rfl, rfl, trivial⟩ ?_
    exfalso
    first | exact (h11) ⟨rfl, rfl, rfl⟩ | simp_all
  · replace h11 := Classical.not_not.1 h11
    refine WP.skip ?_
    refine thn_n ?_
    refine WP.seq ?_
    have hp13 := hp10.drew
    refine WP.held (fun w14 => Ld Try.prog w14 60 ⟨b, 0, none⟩ (.agg #[.int .i64 c.N, .int .i64 c.K, .int .i64 c.Delta]) ∧ Ld Try.prog w14 131 ⟨b, 3, none⟩ (.agg #[.int .u64 ((wd m 0 : Nat) : Int), .int .u64 ((wd m 1 : Nat) : Int), .int .u64 ((wd m 2 : Nat) : Int), .int .u64 ((wd m 3 : Nat) : Int)]) ∧ True) [] [(0, true), (1, true), (2, true), (3, true), (4, true), (5, true), (6, true), (7, true), (8, true), (9, false), (10, true)] (np_thn np_body) (by kernel_rfl) ?_
    refine HOPS.take 9 {} [.agg #[.int .i64 c.N, .int .i64 c.K, .int .i64 c.Delta], .agg #[.int .u64 ((wd m 0 : Nat) : Int), .int .u64 ((wd m 1 : Nat) : Int), .int .u64 ((wd m 2 : Nat) : Int), .int .u64 ((wd m 3 : Nat) : Int)]] [1, 31] [.pointer (some ⟨b, 0, none⟩), .agg #[.int .i64 c.N, .int .i64 c.K, .int .i64 c.Delta, .int .u64 ((wd m 0 : Nat) : Int), .int .u64 ((wd m 1 : Nat) : Int), .int .u64 ((wd m 2 : Nat) : Int), .int .u64 ((wd m 3 : Nat) : Int)]] (by kernel_rfl) ⟨(show Ld Try.prog w9.drew 60 ⟨b, 0, none⟩ (.agg #[.int .i64 c.N, .int .i64 c.K, .int .i64 c.Delta]) from (show Ld Try.prog w9.drew 60 ⟨b, 0, none⟩ (.agg #[.int .i64 c.N, .int .i64 c.K, .int .i64 c.Delta]) from Ld.rowN (cs := [.int .i64 c.N, .int .i64 c.K, .int .i64 c.Delta]) hp13.get0 (by kernel_rfl))), (show Ld Try.prog w9.drew 131 ⟨b, 3, none⟩ (.agg #[.int .u64 ((wd m 0 : Nat) : Int), .int .u64 ((wd m 1 : Nat) : Int), .int .u64 ((wd m 2 : Nat) : Int), .int .u64 ((wd m 3 : Nat) : Int)]) from (show Ld Try.prog w9.drew 131 ⟨b, 3, none⟩ (.agg #[.int .u64 ((wd m 0 : Nat) : Int), .int .u64 ((wd m 1 : Nat) : Int), .int .u64 ((wd m 2 : Nat) : Int), .int .u64 ((wd m 3 : Nat) : Int)]) from Ld.rowN (cs := [.int .u64 ((wd m 0 : Nat) : Int), .int .u64 ((wd m 1 : Nat) : Int), .int .u64 ((wd m 2 : Nat) : Int), .int .u64 ((wd m 3 : Nat) : Int)]) hp13.get0 (by kernel_rfl))), trivial⟩ (fun w15 hS16 => QB.mk (.cons (hS16.1) (.cons (hS16.2.1) .nil)) (by kernel_rfl)) (fun b17 => ?_)
    refine HOPS.eff _ rfl (opStep.box hp13 [.int .i64 c.N, .int .i64 c.K, .int .i64 c.Delta, .int .u64 ((wd m 0 : Nat) : Int), .int .u64 ((wd m 1 : Nat) : Int), .int .u64 ((wd m 2 : Nat) : Int), .int .u64 ((wd m 3 : Nat) : Int)] (by kernel_rfl) (fun g20 w18 hp19 => ?_))
    refine ⟨.inr ⟨(show Ld Try.prog w18 60 ⟨b, 0, none⟩ (.agg #[.int .i64 c.N, .int .i64 c.K, .int .i64 c.Delta]) from (show Ld Try.prog w18 60 ⟨b, 0, none⟩ (.agg #[.int .i64 c.N, .int .i64 c.K, .int .i64 c.Delta]) from Ld.rowN (cs := [.int .i64 c.N, .int .i64 c.K, .int .i64 c.Delta]) hp19.get1 (by kernel_rfl))), (show Ld Try.prog w18 131 ⟨b, 3, none⟩ (.agg #[.int .u64 ((wd m 0 : Nat) : Int), .int .u64 ((wd m 1 : Nat) : Int), .int .u64 ((wd m 2 : Nat) : Int), .int .u64 ((wd m 3 : Nat) : Int)]) from (show Ld Try.prog w18 131 ⟨b, 3, none⟩ (.agg #[.int .u64 ((wd m 0 : Nat) : Int), .int .u64 ((wd m 1 : Nat) : Int), .int .u64 ((wd m 2 : Nat) : Int), .int .u64 ((wd m 3 : Nat) : Int)]) from Ld.rowN (cs := [.int .u64 ((wd m 0 : Nat) : Int), .int .u64 ((wd m 1 : Nat) : Int), .int .u64 ((wd m 2 : Nat) : Int), .int .u64 ((wd m 3 : Nat) : Int)]) hp19.get1 (by kernel_rfl))), trivial⟩, ?_⟩
    refine HOPS.take 1 {} [] [1, 6] [.pointer (some ⟨b, 0, none⟩), .pointer (some ⟨g20, 0, none⟩)] (by kernel_rfl) ⟨(show Ld Try.prog w18 60 ⟨b, 0, none⟩ (.agg #[.int .i64 c.N, .int .i64 c.K, .int .i64 c.Delta]) from (show Ld Try.prog w18 60 ⟨b, 0, none⟩ (.agg #[.int .i64 c.N, .int .i64 c.K, .int .i64 c.Delta]) from Ld.rowN (cs := [.int .i64 c.N, .int .i64 c.K, .int .i64 c.Delta]) hp19.get1 (by kernel_rfl))), (show Ld Try.prog w18 131 ⟨b, 3, none⟩ (.agg #[.int .u64 ((wd m 0 : Nat) : Int), .int .u64 ((wd m 1 : Nat) : Int), .int .u64 ((wd m 2 : Nat) : Int), .int .u64 ((wd m 3 : Nat) : Int)]) from (show Ld Try.prog w18 131 ⟨b, 3, none⟩ (.agg #[.int .u64 ((wd m 0 : Nat) : Int), .int .u64 ((wd m 1 : Nat) : Int), .int .u64 ((wd m 2 : Nat) : Int), .int .u64 ((wd m 3 : Nat) : Int)]) from Ld.rowN (cs := [.int .u64 ((wd m 0 : Nat) : Int), .int .u64 ((wd m 1 : Nat) : Int), .int .u64 ((wd m 2 : Nat) : Int), .int .u64 ((wd m 3 : Nat) : Int)]) hp19.get1 (by kernel_rfl))), trivial⟩ (fun w21 hS22 => QB.mk .nil (by kernel_rfl)) (fun b23 => ?_)
    refine HOPS.nil ?_
    refine thn_n ?_
    refine WP.seq ?_
    refine WP.seq ?_
    refine WP.pure {} [] [1, 6, 33] [.pointer (some ⟨b, 0, none⟩), .pointer (some ⟨g20, 0, none⟩), .int .i64 0] .nil (by kernel_rfl) (fun b24 => ?_)
    refine thn_n ?_
    refine WP.block ?_
    refine WP.rounds 5 ?_
    refine RND.step ?_
    refine WP.seq ?_
    refine WP.pure {} [] [1, 6, 33, 34] [.pointer (some ⟨b, 0, none⟩), .pointer (some ⟨g20, 0, none⟩), .int .i64 0, .bool true] .nil (by kernel_rfl) (fun b25 => ?_)
    refine thn_n ?_
    refine WP.seq ?_
    refine WP.condT rfl ?_
    refine WP.skip ?_
    refine thn_n ?_
    refine WP.seq ?_
    refine WP.block ?_
    refine WP.seq ?_
    refine WP.pure {} [] [1, 6, 7, 33] [.pointer (some ⟨b, 0, none⟩), .pointer (some ⟨g20, 0, none⟩), .int .i64 0, .int .i64 0] .nil (by kernel_rfl) (fun b26 => ?_)
    refine thn_n ?_
    have hp27 := hp19.drew
    refine WP.held (fun w28 => Ld Try.prog w28 129 ⟨g20, 3, none⟩ (.int .u64 ((wd m 0 : Nat) : Int)) ∧ Ld Try.prog w28 129 ⟨b, 3, none⟩ (.int .u64 ((wd m 0 : Nat) : Int)) ∧ True) [16] [(0, true), (1, true), (2, true), (3, true), (4, true), (5, true), (6, true), (7, true), (8, true), (9, true), (10, true), (11, true), (12, true), (13, false), (14, false), (15, true), (16, false)] (np_blk (np_thn (np_thn (np_blk (np_thn np_body))))) (by kernel_rfl) ?_
    refine HOPS.take 13 { subs := [48] } [.int .u64 ((wd m 0 : Nat) : Int), .int .u64 ((wd m 0 : Nat) : Int), .int .u64 (((wd m 0) &&& (wd m 0) : Nat) : Int)] [1, 6, 33, 36, 37, 48] [.pointer (some ⟨b, 0, none⟩), .pointer (some ⟨g20, 0, none⟩), .int .i64 0, .pointer (some ⟨g20, 0, none⟩), .int .i64 0, .int .u64 (((wd m 0) &&& (wd m 0) : Nat) : Int)] (by kernel_rfl) ⟨(show Ld Try.prog w18.drew 129 ⟨g20, 3, none⟩ (.int .u64 ((wd m 0 : Nat) : Int)) from (Ld.row1 (P := Try.prog) (t := 129) (o := 3) (v := .int .u64 ((wd m 0 : Nat) : Int)) hp27.get0 (by kernel_rfl))), (show Ld Try.prog w18.drew 129 ⟨b, 3, none⟩ (.int .u64 ((wd m 0 : Nat) : Int)) from (Ld.row1 (P := Try.prog) (t := 129) (o := 3) (v := .int .u64 ((wd m 0 : Nat) : Int)) hp27.get1 (by kernel_rfl))), trivial⟩ (fun w29 hS30 => QB.mk (.cons (show InB (0) (4) from ⟨by omega, by omega⟩) (.cons (hS30.1) (.cons (show InB (0) (4) from ⟨by omega, by omega⟩) (.cons (hS30.2.1) (.cons (show (.int .u64 (IntKind.u64.wrap (BitVec.ofInt IntKind.u64.bits ((wd m 0 : Nat) : Int) &&& BitVec.ofInt IntKind.u64.bits ((wd m 0 : Nat) : Int)).toNat) : Go.Value) = .int .u64 (((wd m 0) &&& (wd m 0) : Nat) : Int) from congrArg (Value.int .u64) (u64_and (a := wd m 0) (b := wd m 0) (wd_lt _ _) (wd_lt _ _))) .nil))))) (by kernel_rfl)) (fun b31 => ?_)
    refine HOPS.one _ rfl {} [] [1, 6, 33, 37, 48, 49] [.pointer (some ⟨b, 0, none⟩), .pointer (some ⟨g20, 0, none⟩), .int .i64 0, .int .i64 0, .int .u64 (((wd m 0) &&& (wd m 0) : Nat) : Int), .pointer (some ⟨g20, 0, none⟩)] .nil (by kernel_rfl) ⟨(show Ld Try.prog w18.drew 129 ⟨g20, 3, none⟩ (.int .u64 ((wd m 0 : Nat) : Int)) from (Ld.row1 (P := Try.prog) (t := 129) (o := 3) (v := .int .u64 ((wd m 0 : Nat) : Int)) hp27.get0 (by kernel_rfl))), (show Ld Try.prog w18.drew 129 ⟨b, 3, none⟩ (.int .u64 ((wd m 0 : Nat) : Int)) from (Ld.row1 (P := Try.prog) (t := 129) (o := 3) (v := .int .u64 ((wd m 0 : Nat) : Int)) hp27.get1 (by kernel_rfl))), trivial⟩ (fun b34 => ?_)
    refine HOPS.one _ rfl {} [] [1, 6, 33, 37, 48, 50] [.pointer (some ⟨b, 0, none⟩), .pointer (some ⟨g20, 0, none⟩), .int .i64 0, .int .i64 0, .int .u64 (((wd m 0) &&& (wd m 0) : Nat) : Int), .pointer (some ⟨g20, 3, none⟩)] .nil (by kernel_rfl) ⟨(show Ld Try.prog w18.drew 129 ⟨g20, 3, none⟩ (.int .u64 ((wd m 0 : Nat) : Int)) from (Ld.row1 (P := Try.prog) (t := 129) (o := 3) (v := .int .u64 ((wd m 0 : Nat) : Int)) hp27.get0 (by kernel_rfl))), (show Ld Try.prog w18.drew 129 ⟨b, 3, none⟩ (.int .u64 ((wd m 0 : Nat) : Int)) from (Ld.row1 (P := Try.prog) (t := 129) (o := 3) (v := .int .u64 ((wd m 0 : Nat) : Int)) hp27.get1 (by kernel_rfl))), trivial⟩ (fun b37 => ?_)
    refine HOPS.take 1 {} [] [1, 6, 33, 48, 51] [.pointer (some ⟨b, 0, none⟩), .pointer (some ⟨g20, 0, none⟩), .int .i64 0, .int .u64 (((wd m 0) &&& (wd m 0) : Nat) : Int), .pointer (some ⟨g20, 3, none⟩)] (by kernel_rfl) ⟨(show Ld Try.prog w18.drew 129 ⟨g20, 3, none⟩ (.int .u64 ((wd m 0 : Nat) : Int)) from (Ld.row1 (P := Try.prog) (t := 129) (o := 3) (v := .int .u64 ((wd m 0 : Nat) : Int)) hp27.get0 (by kernel_rfl))), (show Ld Try.prog w18.drew 129 ⟨b, 3, none⟩ (.int .u64 ((wd m 0 : Nat) : Int)) from (Ld.row1 (P := Try.prog) (t := 129) (o := 3) (v := .int .u64 ((wd m 0 : Nat) : Int)) hp27.get1 (by kernel_rfl))), trivial⟩ (fun w38 hS39 => QB.mk (.cons (show InB (0) (4) from ⟨by omega, by omega⟩) .nil) (by kernel_rfl)) (fun b40 => ?_)
    refine HOPS.eff _ rfl (opStep.store0 hp27 rfl [.int .u64 (((wd m 0) &&& (wd m 0) : Nat) : Int)] [.int .i64 c.N, .int .i64 c.K, .int .i64 c.Delta, .int .u64 (((wd m 0) &&& (wd m 0) : Nat) : Int), .int .u64 ((wd m 1 : Nat) : Int), .int .u64 ((wd m 2 : Nat) : Int), .int .u64 ((wd m 3 : Nat) : Int)] (by kernel_rfl) (fun w41 hp42 => ?_))
    refine ⟨.inl rfl, ?_⟩
    refine HOPS.nil ?_
    refine blk_n ?_
    refine thn_n ?_
    refine WP.pure {} [] [1, 6, 33] [.pointer (some ⟨b, 0, none⟩), .pointer (some ⟨g20, 0, none⟩), .int .i64 1] (.cons (show Rng .i64 (1) from Rng.i64 (by omega)) .nil) (by kernel_rfl) (fun b43 => ?_)
    refine thn_n ?_
    refine RND.step ?_
    refine WP.seq ?_
    refine WP.pure {} [] [1, 6, 33, 34] [.pointer (some ⟨b, 0, none⟩), .pointer (some ⟨g20, 0, none⟩), .int .i64 1, .bool true] .nil (by kernel_rfl) (fun b44 => ?_)
    refine thn_n ?_
    refine WP.seq ?_
    refine WP.condT rfl ?_
    refine WP.skip ?_
    refine thn_n ?_
    refine WP.seq ?_
    refine WP.block ?_
    refine WP.seq ?_
    refine WP.pure {} [] [1, 6, 7, 33] [.pointer (some ⟨b, 0, none⟩), .pointer (some ⟨g20, 0, none⟩), .int .i64 1, .int .i64 1] .nil (by kernel_rfl) (fun b45 => ?_)
    refine thn_n ?_
    have hp46 := hp42.drew
    refine WP.held (fun w47 => Ld Try.prog w47 129 ⟨g20, 4, none⟩ (.int .u64 ((wd m 1 : Nat) : Int)) ∧ Ld Try.prog w47 129 ⟨b, 4, none⟩ (.int .u64 ((wd m 1 : Nat) : Int)) ∧ True) [16] [(0, true), (1, true), (2, true), (3, true), (4, true), (5, true), (6, true), (7, true), (8, true), (9, true), (10, true), (11, true), (12, true), (13, false), (14, false), (15, true), (16, false)] (np_blk (np_thn (np_thn (np_blk (np_thn np_body))))) (by kernel_rfl) ?_
    refine HOPS.take 13 { subs := [48] } [.int .u64 ((wd m 1 : Nat) : Int), .int .u64 ((wd m 1 : Nat) : Int), .int .u64 (((wd m 1) &&& (wd m 1) : Nat) : Int)] [1, 6, 33, 36, 37, 48] [.pointer (some ⟨b, 0, none⟩), .pointer (some ⟨g20, 0, none⟩), .int .i64 1, .pointer (some ⟨g20, 0, none⟩), .int .i64 1, .int .u64 (((wd m 1) &&& (wd m 1) : Nat) : Int)] (by kernel_rfl) ⟨(show Ld Try.prog w41.drew 129 ⟨g20, 4, none⟩ (.int .u64 ((wd m 1 : Nat) : Int)) from (Ld.row1 (P := Try.prog) (t := 129) (o := 4) (v := .int .u64 ((wd m 1 : Nat) : Int)) hp46.get0 (by kernel_rfl))), (show Ld Try.prog w41.drew 129 ⟨b, 4, none⟩ (.int .u64 ((wd m 1 : Nat) : Int)) from (Ld.row1 (P := Try.prog) (t := 129) (o := 4) (v := .int .u64 ((wd m 1 : Nat) : Int)) hp46.get1 (by kernel_rfl))), trivial⟩ (fun w48 hS49 => QB.mk (.cons (show InB (1) (4) from ⟨by omega, by omega⟩) (.cons (hS49.1) (.cons (show InB (1) (4) from ⟨by omega, by omega⟩) (.cons (hS49.2.1) (.cons (show (.int .u64 (IntKind.u64.wrap (BitVec.ofInt IntKind.u64.bits ((wd m 1 : Nat) : Int) &&& BitVec.ofInt IntKind.u64.bits ((wd m 1 : Nat) : Int)).toNat) : Go.Value) = .int .u64 (((wd m 1) &&& (wd m 1) : Nat) : Int) from congrArg (Value.int .u64) (u64_and (a := wd m 1) (b := wd m 1) (wd_lt _ _) (wd_lt _ _))) .nil))))) (by kernel_rfl)) (fun b50 => ?_)
    refine HOPS.one _ rfl {} [] [1, 6, 33, 37, 48, 49] [.pointer (some ⟨b, 0, none⟩), .pointer (some ⟨g20, 0, none⟩), .int .i64 1, .int .i64 1, .int .u64 (((wd m 1) &&& (wd m 1) : Nat) : Int), .pointer (some ⟨g20, 0, none⟩)] .nil (by kernel_rfl) ⟨(show Ld Try.prog w41.drew 129 ⟨g20, 4, none⟩ (.int .u64 ((wd m 1 : Nat) : Int)) from (Ld.row1 (P := Try.prog) (t := 129) (o := 4) (v := .int .u64 ((wd m 1 : Nat) : Int)) hp46.get0 (by kernel_rfl))), (show Ld Try.prog w41.drew 129 ⟨b, 4, none⟩ (.int .u64 ((wd m 1 : Nat) : Int)) from (Ld.row1 (P := Try.prog) (t := 129) (o := 4) (v := .int .u64 ((wd m 1 : Nat) : Int)) hp46.get1 (by kernel_rfl))), trivial⟩ (fun b53 => ?_)
    refine HOPS.one _ rfl {} [] [1, 6, 33, 37, 48, 50] [.pointer (some ⟨b, 0, none⟩), .pointer (some ⟨g20, 0, none⟩), .int .i64 1, .int .i64 1, .int .u64 (((wd m 1) &&& (wd m 1) : Nat) : Int), .pointer (some ⟨g20, 3, none⟩)] .nil (by kernel_rfl) ⟨(show Ld Try.prog w41.drew 129 ⟨g20, 4, none⟩ (.int .u64 ((wd m 1 : Nat) : Int)) from (Ld.row1 (P := Try.prog) (t := 129) (o := 4) (v := .int .u64 ((wd m 1 : Nat) : Int)) hp46.get0 (by kernel_rfl))), (show Ld Try.prog w41.drew 129 ⟨b, 4, none⟩ (.int .u64 ((wd m 1 : Nat) : Int)) from (Ld.row1 (P := Try.prog) (t := 129) (o := 4) (v := .int .u64 ((wd m 1 : Nat) : Int)) hp46.get1 (by kernel_rfl))), trivial⟩ (fun b56 => ?_)
    refine HOPS.take 1 {} [] [1, 6, 33, 48, 51] [.pointer (some ⟨b, 0, none⟩), .pointer (some ⟨g20, 0, none⟩), .int .i64 1, .int .u64 (((wd m 1) &&& (wd m 1) : Nat) : Int), .pointer (some ⟨g20, 4, none⟩)] (by kernel_rfl) ⟨(show Ld Try.prog w41.drew 129 ⟨g20, 4, none⟩ (.int .u64 ((wd m 1 : Nat) : Int)) from (Ld.row1 (P := Try.prog) (t := 129) (o := 4) (v := .int .u64 ((wd m 1 : Nat) : Int)) hp46.get0 (by kernel_rfl))), (show Ld Try.prog w41.drew 129 ⟨b, 4, none⟩ (.int .u64 ((wd m 1 : Nat) : Int)) from (Ld.row1 (P := Try.prog) (t := 129) (o := 4) (v := .int .u64 ((wd m 1 : Nat) : Int)) hp46.get1 (by kernel_rfl))), trivial⟩ (fun w57 hS58 => QB.mk (.cons (show InB (1) (4) from ⟨by omega, by omega⟩) .nil) (by kernel_rfl)) (fun b59 => ?_)
    refine HOPS.eff _ rfl (opStep.store0 hp46 rfl [.int .u64 (((wd m 1) &&& (wd m 1) : Nat) : Int)] [.int .i64 c.N, .int .i64 c.K, .int .i64 c.Delta, .int .u64 (((wd m 0) &&& (wd m 0) : Nat) : Int), .int .u64 (((wd m 1) &&& (wd m 1) : Nat) : Int), .int .u64 ((wd m 2 : Nat) : Int), .int .u64 ((wd m 3 : Nat) : Int)] (by kernel_rfl) (fun w60 hp61 => ?_))
    refine ⟨.inl rfl, ?_⟩
    refine HOPS.nil ?_
    refine blk_n ?_
    refine thn_n ?_
    refine WP.pure {} [] [1, 6, 33] [.pointer (some ⟨b, 0, none⟩), .pointer (some ⟨g20, 0, none⟩), .int .i64 2] (.cons (show Rng .i64 (2) from Rng.i64 (by omega)) .nil) (by kernel_rfl) (fun b62 => ?_)
    refine thn_n ?_
    refine RND.step ?_
    refine WP.seq ?_
    refine WP.pure {} [] [1, 6, 33, 34] [.pointer (some ⟨b, 0, none⟩), .pointer (some ⟨g20, 0, none⟩), .int .i64 2, .bool true] .nil (by kernel_rfl) (fun b63 => ?_)
    refine thn_n ?_
    refine WP.seq ?_
    refine WP.condT rfl ?_
    refine WP.skip ?_
    refine thn_n ?_
    refine WP.seq ?_
    refine WP.block ?_
    refine WP.seq ?_
    refine WP.pure {} [] [1, 6, 7, 33] [.pointer (some ⟨b, 0, none⟩), .pointer (some ⟨g20, 0, none⟩), .int .i64 2, .int .i64 2] .nil (by kernel_rfl) (fun b64 => ?_)
    refine thn_n ?_
    have hp65 := hp61.drew
    refine WP.held (fun w66 => Ld Try.prog w66 129 ⟨g20, 5, none⟩ (.int .u64 ((wd m 2 : Nat) : Int)) ∧ Ld Try.prog w66 129 ⟨b, 5, none⟩ (.int .u64 ((wd m 2 : Nat) : Int)) ∧ True) [16] [(0, true), (1, true), (2, true), (3, true), (4, true), (5, true), (6, true), (7, true), (8, true), (9, true), (10, true), (11, true), (12, true), (13, false), (14, false), (15, true), (16, false)] (np_blk (np_thn (np_thn (np_blk (np_thn np_body))))) (by kernel_rfl) ?_
    refine HOPS.take 13 { subs := [48] } [.int .u64 ((wd m 2 : Nat) : Int), .int .u64 ((wd m 2 : Nat) : Int), .int .u64 (((wd m 2) &&& (wd m 2) : Nat) : Int)] [1, 6, 33, 36, 37, 48] [.pointer (some ⟨b, 0, none⟩), .pointer (some ⟨g20, 0, none⟩), .int .i64 2, .pointer (some ⟨g20, 0, none⟩), .int .i64 2, .int .u64 (((wd m 2) &&& (wd m 2) : Nat) : Int)] (by kernel_rfl) ⟨(show Ld Try.prog w60.drew 129 ⟨g20, 5, none⟩ (.int .u64 ((wd m 2 : Nat) : Int)) from (Ld.row1 (P := Try.prog) (t := 129) (o := 5) (v := .int .u64 ((wd m 2 : Nat) : Int)) hp65.get0 (by kernel_rfl))), (show Ld Try.prog w60.drew 129 ⟨b, 5, none⟩ (.int .u64 ((wd m 2 : Nat) : Int)) from (Ld.row1 (P := Try.prog) (t := 129) (o := 5) (v := .int .u64 ((wd m 2 : Nat) : Int)) hp65.get1 (by kernel_rfl))), trivial⟩ (fun w67 hS68 => QB.mk (.cons (show InB (2) (4) from ⟨by omega, by omega⟩) (.cons (hS68.1) (.cons (show InB (2) (4) from ⟨by omega, by omega⟩) (.cons (hS68.2.1) (.cons (show (.int .u64 (IntKind.u64.wrap (BitVec.ofInt IntKind.u64.bits ((wd m 2 : Nat) : Int) &&& BitVec.ofInt IntKind.u64.bits ((wd m 2 : Nat) : Int)).toNat) : Go.Value) = .int .u64 (((wd m 2) &&& (wd m 2) : Nat) : Int) from congrArg (Value.int .u64) (u64_and (a := wd m 2) (b := wd m 2) (wd_lt _ _) (wd_lt _ _))) .nil))))) (by kernel_rfl)) (fun b69 => ?_)
    refine HOPS.one _ rfl {} [] [1, 6, 33, 37, 48, 49] [.pointer (some ⟨b, 0, none⟩), .pointer (some ⟨g20, 0, none⟩), .int .i64 2, .int .i64 2, .int .u64 (((wd m 2) &&& (wd m 2) : Nat) : Int), .pointer (some ⟨g20, 0, none⟩)] .nil (by kernel_rfl) ⟨(show Ld Try.prog w60.drew 129 ⟨g20, 5, none⟩ (.int .u64 ((wd m 2 : Nat) : Int)) from (Ld.row1 (P := Try.prog) (t := 129) (o := 5) (v := .int .u64 ((wd m 2 : Nat) : Int)) hp65.get0 (by kernel_rfl))), (show Ld Try.prog w60.drew 129 ⟨b, 5, none⟩ (.int .u64 ((wd m 2 : Nat) : Int)) from (Ld.row1 (P := Try.prog) (t := 129) (o := 5) (v := .int .u64 ((wd m 2 : Nat) : Int)) hp65.get1 (by kernel_rfl))), trivial⟩ (fun b72 => ?_)
    refine HOPS.one _ rfl {} [] [1, 6, 33, 37, 48, 50] [.pointer (some ⟨b, 0, none⟩), .pointer (some ⟨g20, 0, none⟩), .int .i64 2, .int .i64 2, .int .u64 (((wd m 2) &&& (wd m 2) : Nat) : Int), .pointer (some ⟨g20, 3, none⟩)] .nil (by kernel_rfl) ⟨(show Ld Try.prog w60.drew 129 ⟨g20, 5, none⟩ (.int .u64 ((wd m 2 : Nat) : Int)) from (Ld.row1 (P := Try.prog) (t := 129) (o := 5) (v := .int .u64 ((wd m 2 : Nat) : Int)) hp65.get0 (by kernel_rfl))), (show Ld Try.prog w60.drew 129 ⟨b, 5, none⟩ (.int .u64 ((wd m 2 : Nat) : Int)) from (Ld.row1 (P := Try.prog) (t := 129) (o := 5) (v := .int .u64 ((wd m 2 : Nat) : Int)) hp65.get1 (by kernel_rfl))), trivial⟩ (fun b75 => ?_)
    refine HOPS.take 1 {} [] [1, 6, 33, 48, 51] [.pointer (some ⟨b, 0, none⟩), .pointer (some ⟨g20, 0, none⟩), .int .i64 2, .int .u64 (((wd m 2) &&& (wd m 2) : Nat) : Int), .pointer (some ⟨g20, 5, none⟩)] (by kernel_rfl) ⟨(show Ld Try.prog w60.drew 129 ⟨g20, 5, none⟩ (.int .u64 ((wd m 2 : Nat) : Int)) from (Ld.row1 (P := Try.prog) (t := 129) (o := 5) (v := .int .u64 ((wd m 2 : Nat) : Int)) hp65.get0 (by kernel_rfl))), (show Ld Try.prog w60.drew 129 ⟨b, 5, none⟩ (.int .u64 ((wd m 2 : Nat) : Int)) from (Ld.row1 (P := Try.prog) (t := 129) (o := 5) (v := .int .u64 ((wd m 2 : Nat) : Int)) hp65.get1 (by kernel_rfl))), trivial⟩ (fun w76 hS77 => QB.mk (.cons (show InB (2) (4) from ⟨by omega, by omega⟩) .nil) (by kernel_rfl)) (fun b78 => ?_)
    refine HOPS.eff _ rfl (opStep.store0 hp65 rfl [.int .u64 (((wd m 2) &&& (wd m 2) : Nat) : Int)] [.int .i64 c.N, .int .i64 c.K, .int .i64 c.Delta, .int .u64 (((wd m 0) &&& (wd m 0) : Nat) : Int), .int .u64 (((wd m 1) &&& (wd m 1) : Nat) : Int), .int .u64 (((wd m 2) &&& (wd m 2) : Nat) : Int), .int .u64 ((wd m 3 : Nat) : Int)] (by kernel_rfl) (fun w79 hp80 => ?_))
    refine ⟨.inl rfl, ?_⟩
    refine HOPS.nil ?_
    refine blk_n ?_
    refine thn_n ?_
    refine WP.pure {} [] [1, 6, 33] [.pointer (some ⟨b, 0, none⟩), .pointer (some ⟨g20, 0, none⟩), .int .i64 3] (.cons (show Rng .i64 (3) from Rng.i64 (by omega)) .nil) (by kernel_rfl) (fun b81 => ?_)
    refine thn_n ?_
    refine RND.step ?_
    refine WP.seq ?_
    refine WP.pure {} [] [1, 6, 33, 34] [.pointer (some ⟨b, 0, none⟩), .pointer (some ⟨g20, 0, none⟩), .int .i64 3, .bool true] .nil (by kernel_rfl) (fun b82 => ?_)
    refine thn_n ?_
    refine WP.seq ?_
    refine WP.condT rfl ?_
    refine WP.skip ?_
    refine thn_n ?_
    refine WP.seq ?_
    refine WP.block ?_
    refine WP.seq ?_
    refine WP.pure {} [] [1, 6, 7, 33] [.pointer (some ⟨b, 0, none⟩), .pointer (some ⟨g20, 0, none⟩), .int .i64 3, .int .i64 3] .nil (by kernel_rfl) (fun b83 => ?_)
    refine thn_n ?_
    have hp84 := hp80.drew
    refine WP.held (fun w85 => Ld Try.prog w85 129 ⟨g20, 6, none⟩ (.int .u64 ((wd m 3 : Nat) : Int)) ∧ Ld Try.prog w85 129 ⟨b, 6, none⟩ (.int .u64 ((wd m 3 : Nat) : Int)) ∧ True) [16] [(0, true), (1, true), (2, true), (3, true), (4, true), (5, true), (6, true), (7, true), (8, true), (9, true), (10, true), (11, true), (12, true), (13, false), (14, false), (15, true), (16, false)] (np_blk (np_thn (np_thn (np_blk (np_thn np_body))))) (by kernel_rfl) ?_
    refine HOPS.take 13 { subs := [48] } [.int .u64 ((wd m 3 : Nat) : Int), .int .u64 ((wd m 3 : Nat) : Int), .int .u64 (((wd m 3) &&& (wd m 3) : Nat) : Int)] [1, 6, 33, 36, 37, 48] [.pointer (some ⟨b, 0, none⟩), .pointer (some ⟨g20, 0, none⟩), .int .i64 3, .pointer (some ⟨g20, 0, none⟩), .int .i64 3, .int .u64 (((wd m 3) &&& (wd m 3) : Nat) : Int)] (by kernel_rfl) ⟨(show Ld Try.prog w79.drew 129 ⟨g20, 6, none⟩ (.int .u64 ((wd m 3 : Nat) : Int)) from (Ld.row1 (P := Try.prog) (t := 129) (o := 6) (v := .int .u64 ((wd m 3 : Nat) : Int)) hp84.get0 (by kernel_rfl))), (show Ld Try.prog w79.drew 129 ⟨b, 6, none⟩ (.int .u64 ((wd m 3 : Nat) : Int)) from (Ld.row1 (P := Try.prog) (t := 129) (o := 6) (v := .int .u64 ((wd m 3 : Nat) : Int)) hp84.get1 (by kernel_rfl))), trivial⟩ (fun w86 hS87 => QB.mk (.cons (show InB (3) (4) from ⟨by omega, by omega⟩) (.cons (hS87.1) (.cons (show InB (3) (4) from ⟨by omega, by omega⟩) (.cons (hS87.2.1) (.cons (show (.int .u64 (IntKind.u64.wrap (BitVec.ofInt IntKind.u64.bits ((wd m 3 : Nat) : Int) &&& BitVec.ofInt IntKind.u64.bits ((wd m 3 : Nat) : Int)).toNat) : Go.Value) = .int .u64 (((wd m 3) &&& (wd m 3) : Nat) : Int) from congrArg (Value.int .u64) (u64_and (a := wd m 3) (b := wd m 3) (wd_lt _ _) (wd_lt _ _))) .nil))))) (by kernel_rfl)) (fun b88 => ?_)
    refine HOPS.one _ rfl {} [] [1, 6, 33, 37, 48, 49] [.pointer (some ⟨b, 0, none⟩), .pointer (some ⟨g20, 0, none⟩), .int .i64 3, .int .i64 3, .int .u64 (((wd m 3) &&& (wd m 3) : Nat) : Int), .pointer (some ⟨g20, 0, none⟩)] .nil (by kernel_rfl) ⟨(show Ld Try.prog w79.drew 129 ⟨g20, 6, none⟩ (.int .u64 ((wd m 3 : Nat) : Int)) from (Ld.row1 (P := Try.prog) (t := 129) (o := 6) (v := .int .u64 ((wd m 3 : Nat) : Int)) hp84.get0 (by kernel_rfl))), (show Ld Try.prog w79.drew 129 ⟨b, 6, none⟩ (.int .u64 ((wd m 3 : Nat) : Int)) from (Ld.row1 (P := Try.prog) (t := 129) (o := 6) (v := .int .u64 ((wd m 3 : Nat) : Int)) hp84.get1 (by kernel_rfl))), trivial⟩ (fun b91 => ?_)
    refine HOPS.one _ rfl {} [] [1, 6, 33, 37, 48, 50] [.pointer (some ⟨b, 0, none⟩), .pointer (some ⟨g20, 0, none⟩), .int .i64 3, .int .i64 3, .int .u64 (((wd m 3) &&& (wd m 3) : Nat) : Int), .pointer (some ⟨g20, 3, none⟩)] .nil (by kernel_rfl) ⟨(show Ld Try.prog w79.drew 129 ⟨g20, 6, none⟩ (.int .u64 ((wd m 3 : Nat) : Int)) from (Ld.row1 (P := Try.prog) (t := 129) (o := 6) (v := .int .u64 ((wd m 3 : Nat) : Int)) hp84.get0 (by kernel_rfl))), (show Ld Try.prog w79.drew 129 ⟨b, 6, none⟩ (.int .u64 ((wd m 3 : Nat) : Int)) from (Ld.row1 (P := Try.prog) (t := 129) (o := 6) (v := .int .u64 ((wd m 3 : Nat) : Int)) hp84.get1 (by kernel_rfl))), trivial⟩ (fun b94 => ?_)
    refine HOPS.take 1 {} [] [1, 6, 33, 48, 51] [.pointer (some ⟨b, 0, none⟩), .pointer (some ⟨g20, 0, none⟩), .int .i64 3, .int .u64 (((wd m 3) &&& (wd m 3) : Nat) : Int), .pointer (some ⟨g20, 6, none⟩)] (by kernel_rfl) ⟨(show Ld Try.prog w79.drew 129 ⟨g20, 6, none⟩ (.int .u64 ((wd m 3 : Nat) : Int)) from (Ld.row1 (P := Try.prog) (t := 129) (o := 6) (v := .int .u64 ((wd m 3 : Nat) : Int)) hp84.get0 (by kernel_rfl))), (show Ld Try.prog w79.drew 129 ⟨b, 6, none⟩ (.int .u64 ((wd m 3 : Nat) : Int)) from (Ld.row1 (P := Try.prog) (t := 129) (o := 6) (v := .int .u64 ((wd m 3 : Nat) : Int)) hp84.get1 (by kernel_rfl))), trivial⟩ (fun w95 hS96 => QB.mk (.cons (show InB (3) (4) from ⟨by omega, by omega⟩) .nil) (by kernel_rfl)) (fun b97 => ?_)
    refine HOPS.eff _ rfl (opStep.store0 hp84 rfl [.int .u64 (((wd m 3) &&& (wd m 3) : Nat) : Int)] [.int .i64 c.N, .int .i64 c.K, .int .i64 c.Delta, .int .u64 (((wd m 0) &&& (wd m 0) : Nat) : Int), .int .u64 (((wd m 1) &&& (wd m 1) : Nat) : Int), .int .u64 (((wd m 2) &&& (wd m 2) : Nat) : Int), .int .u64 (((wd m 3) &&& (wd m 3) : Nat) : Int)] (by kernel_rfl) (fun w98 hp99 => ?_))
    refine ⟨.inl rfl, ?_⟩
    refine HOPS.nil ?_
    refine blk_n ?_
    refine thn_n ?_
    refine WP.pure {} [] [1, 6, 33] [.pointer (some ⟨b, 0, none⟩), .pointer (some ⟨g20, 0, none⟩), .int .i64 4] (.cons (show Rng .i64 (4) from Rng.i64 (by omega)) .nil) (by kernel_rfl) (fun b100 => ?_)
    refine thn_n ?_
    refine RND.step ?_
    refine WP.seq ?_
    refine WP.pure {} [] [1, 6, 33, 34] [.pointer (some ⟨b, 0, none⟩), .pointer (some ⟨g20, 0, none⟩), .int .i64 4, .bool false] .nil (by kernel_rfl) (fun b101 => ?_)
    refine thn_n ?_
    refine WP.seq ?_
    refine WP.condF rfl ?_
    refine WP.exit ?_
    refine thn_x ?_
    refine thn_x ?_
    refine blk_hit ?_
    refine thn_n ?_
    refine WP.seq ?_
    refine WP.pure {} [] [4, 5] [.pointer (some ⟨g20, 0, none⟩), .int .i64 0] .nil (by kernel_rfl) (fun b102 => ?_)
    refine thn_n ?_
    refine WP.ret ?_
    refine bodyQ.of _ rfl [.pointer (some ⟨g20, 0, none⟩), .int .i64 0] ⟨rfl, rfl, trivial⟩ ?_
    refine ⟨g20, rfl, ?_⟩
    simp only [wd_and]
    exact hp99

theorem q_New_no (c : GConfig) (w : World) (hok : ¬ okCfg c) :
    Calls Try.prog 33 #[GConfig.val c] w (fun r_ w' => r_ = .returned (.tuple #[.pointer none, .int .i64 40]) ∧ Fram Non w w') := by
  have hz := qChk_no hok
  refine calls_of Try.func33 rfl 10 rfl (by simp) ?_
  have hp0 := Hp.init w
  have he0 : List.map (env0 [GConfig.val c]) [0] = [GConfig.val c] := by kernel_rfl
  obtain ⟨b0, he0⟩ := toMk he0
  rw [he0]
  clear he0
  refine WP.seq ?_
  refine WP.region _ rfl (by kernel_rfl) ?_
  refine OPS.cons (opStep.box hp0 [.int .i64 c.N, .int .i64 c.K, .int .i64 c.Delta] (by kernel_rfl) (fun g3 w1 hp2 => ?_))
  refine OPS.batch 2 {} [] [1] [.pointer (some ⟨g3, 0, none⟩)] .nil (by kernel_rfl) (fun b4 => ?_)
  refine OPS.nil ?_
  refine thn_n ?_
  refine WP.seq ?_
  refine WP.seq ?_
  refine WP.region _ rfl (by kernel_rfl) ?_
  refine OPS.batch 1 {} [GConfig.val c] [1, 4] [.pointer (some ⟨g3, 0, none⟩), GConfig.val c] (.cons (show Ld Try.prog w1 60 ⟨g3, 0, none⟩ (GConfig.val c) from Ld.rowN (cs := [.int .i64 c.N, .int .i64 c.K, .int .i64 c.Delta]) hp2.get0 (by kernel_rfl)) .nil) (by kernel_rfl) (fun b5 => ?_)
  refine OPS.cons (opStep.call (some 5) [GConfig.val c] (by kernel_rfl) (q_Check c _) ?_)
  rintro _ w8 ⟨rfl, hf9⟩
  refine ⟨_, rfl, ?_⟩
  have hp10 := hp2.step hf9
  refine OPS.batch 1 {} [] [1, 6] [.pointer (some ⟨g3, 0, none⟩), .bool (decide (¬ ((qChk c) = 0)))] .nil (by kernel_rfl) (fun b11 => ?_)
  refine OPS.nil ?_
  refine thn_n ?_
  refine WP.test (p := ¬ ((qChk c) = 0)) rfl Bp.dec (fun h12 => ?_) (fun h12 => ?_)
  · refine WP.seq ?_
    refine WP.pure {} [] [2, 3] [.pointer none, .int .i64 40] .nil (by kernel_rfl) (fun b13 => ?_)
    refine thn_n ?_
    refine WP.ret ?_
    refine thn_r ?_
    refine bodyQ.of _ rfl [.pointer none, .int .i64 40] ⟨rfl, rfl, trivial⟩ ?_
    exact ⟨rfl, hp10.fr⟩
  · replace h12 := Classical.not_not.1 h12
    refine WP.skip ?_
    refine thn_n ?_
    refine WP.seq ?_
    refine WP.region _ rfl (by kernel_rfl) ?_
    refine OPS.batch 2 {} [GConfig.val c] [8] [.agg #[.int .i64 c.N, .int .i64 c.K, .int .i64 c.Delta, .int .u64 0, .int .u64 0, .int .u64 0, .int .u64 0]] (.cons (show Ld Try.prog w8 60 ⟨g3, 0, none⟩ (GConfig.val c) from Ld.rowN (cs := [.int .i64 c.N, .int .i64 c.K, .int .i64 c.Delta]) hp10.get0 (by kernel_rfl)) .nil) (by kernel_rfl) (fun b14 => ?_)
    refine OPS.cons (opStep.box hp10 [.int .i64 c.N, .int .i64 c.K, .int .i64 c.Delta, .int .u64 0, .int .u64 0, .int .u64 0, .int .u64 0] (by kernel_rfl) (fun g17 w15 hp16 => ?_))
    refine OPS.batch 2 {} [] [2, 3] [.pointer (some ⟨g17, 0, none⟩), .int .i64 0] .nil (by kernel_rfl) (fun b18 => ?_)
    refine OPS.nil ?_
    refine thn_n ?_
    refine WP.ret ?_
    refine bodyQ.of _ rfl [.pointer (some ⟨g17, 0, none⟩), .int .i64 0] ⟨rfl, rfl, trivial⟩ ?_
    exfalso
    rw [hz] at h12
    omega

end Go.Proofs.Ythdkbbpiaeaojaa.K
