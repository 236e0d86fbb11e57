/- The walks of LawA: what each function computes. -/
import Derived.Test.YthdkbbpiaeaojaaProg
import Derived.Test.YthdkbbpiaeaojaaCoreO
import Derived.Test.YthdkbbpiaeaojaaLinH
import Derived.Test.YthdkbbpiaeaojaaCoreT
import Derived.Test.YthdkbbpiaeaojaaCoreV
namespace Go.Proofs.Ythdkbbpiaeaojaa.K
open Go Go.Proofs Go.RowKit
set_option linter.unusedVariables false
set_option linter.unusedSimpArgs false
set_option maxRecDepth 20000
set_option maxHeartbeats 4000000

theorem VB.step {w w' : World} {s : SlH} (h : VB w s) (hf : Fram Non w w') : VB w' s ∧ valAt w' s = valAt w s := VB.mk (SlR.fram h hf) (bytesAt_len w s)
theorem expl_same {val val' : SlH → ByteArray} {l : List GCall} {os : List Nat} (h : ∀ i, i < l.length → val l[i]!.Value = val' l[i]!.Value) : Expl val l os ↔ Expl val' l os := by
  have s : SimC val l val' l := ⟨rfl, fun _ _ => rfl, fun _ _ => rfl, fun _ _ => rfl, fun _ _ => rfl, fun _ _ => rfl, fun i j hi hj => by rw [h i hi, h j hj]⟩
  constructor
  · intro k
    refine ⟨k.nd, k.mem, k.all, k.ord, fun j hj => ?_⟩
    have hm := (k.mem _ (List.mem_of_getElem? (get_bang hj))).1
    exact (k.rd j hj).imp id (s.expl hm (lastOf_lt (l := l) (fun x hx => (k.mem x (List.mem_of_mem_take hx)).1))).1
  · intro k
    refine ⟨k.nd, k.mem, k.all, k.ord, fun j hj => ?_⟩
    have hm := (k.mem _ (List.mem_of_getElem? (get_bang hj))).1
    exact (k.rd j hj).imp id (s.expl hm (lastOf_lt (l := l) (fun x hx => (k.mem x (List.mem_of_mem_take hx)).1))).2
theorem expl_at (l : List GCall) (n : Nat) (hn : l.length = n) (a : Option Addr) (cp : Nat) (os : List Nat) (ao : Option Addr) (no co : Nat) (w0 w : World) (hf : Fram Non w0 w) (hs : SlR w0 a n (l.flatMap GCall.cells)) (hv : ∀ x ∈ l, VB w0 x.Value) (hll : l.length ≤ 8796093022207) (h2 : SlR w ao no (List.flatMap (fun (y : Nat) => [Go.Value.int .i64 (y : Int)]) os)) (hno : os.length = no) (hol : no ≤ 8796093022207) :
    Calls Try.prog 27 #[.slice a n cp, .slice ao no co] w (fun r_ w' => ∃ f_, r_ = .returned (.bool f_) ∧ Bp f_ (Expl (valAt w0) l os) ∧ Fram Non w w') := by
  refine (expl_N l n hn a cp os ao no co w (hs.fram hf) (fun x hx => ((hv x hx).step hf).1) hll h2 hno hol).mono ?_
  rintro _ w' ⟨f, rfl, hb, h⟩
  exact ⟨f, rfl, Bp.of hb (expl_same fun i hi => ((hv _ (List.mem_of_getElem? (get_bang hi))).step hf).2), h⟩
def leastR (val : SlH → ByteArray) (l : List GCall) (os : List Nat) (ok : Bool) (os' : List Nat) : Prop :=
  (ok = true → ∃ q, os' = os ++ q ∧ Expl val l os' ∧ ∀ q', Expl val l (os ++ q') → lexle q q') ∧ (ok = false → os' = [] ∧ ∀ q, ¬ Expl val l (os ++ q))
def Pre0 (l : List GCall) (os : List Nat) : Prop := os.Nodup ∧ ∀ x ∈ os, x < l.length
theorem pre0_len {l : List GCall} {os : List Nat} (h : Pre0 l os) : os.length ≤ l.length := nodup_le _ _ h.1 h.2
theorem pre0_snoc {l : List GCall} {os : List Nat} {k : Nat} (h : Pre0 l os) (hk : k < l.length) (hn : ¬ k ∈ os) : Pre0 l (os ++ [k]) := by
  refine ⟨?_, fun x hx => ?_⟩
  · rw [List.nodup_append]; exact ⟨h.1, by simp, fun a ha b hb e => hn (by rw [List.mem_singleton.1 hb] at e; rwa [← e])⟩
  · rcases List.mem_append.1 hx with q | q
    · exact h.2 x q
    · rw [List.mem_singleton.1 q]; exact hk
theorem mem_step {os : List Nat} {m k : Nat} (hm : m < os.length) {x : Bool} {p : Prop} (hx : Bp x p) (h : p ↔ k ∈ os.take m ∨ k = os[m]!) : x = true ↔ k ∈ os.take (m + 1) := by
  rw [take_snoc_get hm, List.mem_append, List.mem_singleton]; exact hx.trans h
section
variable {val : SlH → ByteArray} {l : List GCall} {os : List Nat}
theorem least_skip {k : Nat} (h : k ∈ os) (q : List Nat) : ¬ Expl val l (os ++ k :: q) := fun e => by
  have := e.nd
  rw [List.nodup_append] at this
  exact this.2.2 k h k (by simp) rfl
theorem least_cons {k : Nat} {q : List Nat} (hd : ¬ Expl val l os) (hn : ∀ j, j < k → ∀ q, ¬ Expl val l (os ++ j :: q)) (hq : ∀ q', Expl val l (os ++ [k] ++ q') → lexle q q') : ∀ q', Expl val l (os ++ q') → lexle (k :: q) q' := by
  intro q' h
  cases q' with
  | nil => rw [List.append_nil] at h; exact absurd h hd
  | cons j r =>
    rcases Nat.lt_trichotomy j k with c | c | c
    · exact absurd h (hn j c r)
    · subst c; exact .inr ⟨rfl, hq r (by rw [List.append_assoc]; exact h)⟩
    · exact .inl c
theorem least_none (hd : ¬ Expl val l os) (hn : ∀ j, j < l.length → ∀ q, ¬ Expl val l (os ++ j :: q)) : ∀ q, ¬ Expl val l (os ++ q) := by
  intro q h
  cases q with
  | nil => rw [List.append_nil] at h; exact hd h
  | cons j r => exact hn j (h.mem j (by simp)).1 r h
end
theorem path_pre {val : SlH → ByteArray} {l : List GCall} : ∀ {q pre : List Nat}, SeqOk val l (pre ++ q) → doneA l (pre ++ q) → ∃ p, PathA val l pre p ∧ lexle p q
  | [], pre, _, hd => ⟨[], by rw [List.append_nil] at hd; exact hd, trivial⟩
  | j :: q, pre, h, hd => by
    by_cases hdn : doneA l pre
    · exact ⟨[], hdn, trivial⟩
    · have hj := h pre.length (by simp)
      rw [List.take_left' rfl, show (pre ++ j :: q)[pre.length]! = j from by simp] at hj
      obtain ⟨p, hp, hl⟩ := path_pre (q := q) (pre := pre ++ [j]) (by rw [List.append_assoc]; exact h) (by rw [List.append_assoc]; exact hd)
      exact ⟨j :: p, ⟨hdn, hj, hp⟩, .inr ⟨rfl, hl⟩⟩
theorem lexle_trans : ∀ {p q r : List Nat}, lexle p q → lexle q r → lexle p r
  | [], _, _, _, _ => trivial
  | _ :: _, [], _, h, _ => by simp [lexle] at h
  | _ :: _, _ :: _, [], _, k => by simp [lexle] at k
  | a :: p, b :: q, c :: r, h, k => by
    simp only [lexle] at h k ⊢
    rcases h with h | ⟨h1, h2⟩
    · rcases k with k | ⟨k1, k2⟩
      · exact .inl (by omega)
      · exact .inl (by omega)
    · rcases k with k | ⟨k1, k2⟩
      · exact .inl (by omega)
      · exact .inr ⟨by omega, lexle_trans h2 k2⟩
theorem least_best {val : SlH → ByteArray} {l : List GCall} {xs os : List Nat} {ok is : Bool} (h : leastR val l [] is os) (h2 : (ok = true ∧ BestA val l xs) ∨ (ok = false ∧ xs = [] ∧ ∀ p, ¬ PathA val l [] p)) : ok = is ∧ xs = os ∧ (ok = true → Expl val l xs) := by
  obtain ⟨a, b⟩ := h
  rcases h2 with ⟨rfl, c, d⟩ | ⟨rfl, rfl, c⟩
  · have e := path_expl c
    cases is with
    | false => exact absurd e ((b rfl).2 xs)
    | true =>
      obtain ⟨q, e0, f1, f2⟩ := a rfl
      have e1 : q = os := e0.symm
      subst e1
      obtain ⟨p, hp, hl⟩ := path_pre (q := q) (pre := []) (expl_seq f1) f1.all
      exact ⟨rfl, lexle_anti (lexle_trans (d p hp) hl) (f2 xs e), fun _ => e⟩
  · cases is with
    | false => exact ⟨rfl, (b rfl).1.symm, fun h => by cases h⟩
    | true =>
      obtain ⟨q, e0, f1, f2⟩ := a rfl
      have e1 : q = os := e0.symm
      subst e1
      obtain ⟨p, hp⟩ := expl_path f1
      exact absurd hp (c p)

theorem least_step (w0 : World) (l : List GCall) (n : Nat) (hn : l.length = n) (a : Option Addr) (cp : Nat) (hs : SlR w0 a n (l.flatMap GCall.cells)) (hv : ∀ x ∈ l, VB w0 x.Value) (hll : l.length ≤ 1000000) (mm : Nat) (ih : ∀ (L : List Res) (ao : Option Addr) (no co : Nat) (os : List Nat) (w : World) (hpre : Pre0 l os) (hp0 : Hp w0 Non (Res.own 3 1 (.slice ao no co) no (List.flatMap (fun (y : Nat) => [Go.Value.int .i64 (y : Int)]) os) :: L) w), l.length - os.length < mm → Calls Try.prog 26 #[.slice a n cp, .slice ao no co] w (fun x w' => ∃ (ok : Bool) (ao' : Option Addr) (no' co' : Nat) (os' : List Nat), x = .returned (.tuple #[.slice ao' no' co', .bool ok]) ∧ leastR (valAt w0) l os ok os' ∧ Hp w0 Non (Res.own 3 1 (.slice ao' no' co') no' (List.flatMap (fun (y : Nat) => [Go.Value.int .i64 (y : Int)]) os') :: L) w')) (L : List Res) (ao : Option Addr) (no co : Nat) (os : List Nat) (w : World) (hpre : Pre0 l os) (hp0 : Hp w0 Non (Res.own 3 1 (.slice ao no co) no (List.flatMap (fun (y : Nat) => [Go.Value.int .i64 (y : Int)]) os) :: L) w) (hmm : l.length - os.length ≤ mm) :
    Calls Try.prog 26 #[.slice a n cp, .slice ao no co] w (fun x w' => ∃ (ok : Bool) (ao' : Option Addr) (no' co' : Nat) (os' : List Nat), x = .returned (.tuple #[.slice ao' no' co', .bool ok]) ∧ leastR (valAt w0) l os ok os' ∧ Hp w0 Non (Res.own 3 1 (.slice ao' no' co') no' (List.flatMap (fun (y : Nat) => [Go.Value.int .i64 (y : Int)]) os') :: L) w') := by
  have hpl0 := pre0_len hpre
  have hno := own_flat (sz := 1) (fun _ => rfl) (by decide) hp0.get0
  refine calls_of Try.func26 rfl 49 rfl (by simp) ?_
  have he0 : List.map (env0 [.slice a n cp, .slice ao no co]) [0, 1] = [.slice a n cp, .slice ao no co] := by kernel_rfl
  obtain ⟨b0, he0⟩ := toMk he0
  rw [he0]
  clear he0
  refine WP.seq ?_
  refine WP.pure {} [] [0, 1] [.slice a n cp, .slice ao no co] .nil (by kernel_rfl) (fun b1 => ?_)
  refine thn_n ?_
  refine WP.seq ?_
  refine WP.seq ?_
  refine WP.region _ rfl (by kernel_rfl) ?_
  refine OPS.batch 2 {} [] [0, 1, 12, 13] [.slice a n cp, .slice ao no co, .slice a n cp, .slice ao no co] .nil (by kernel_rfl) (fun b2 => ?_)
  refine OPS.cons (opStep.call (some 14) [.slice a n cp, .slice ao no co] (by kernel_rfl) (expl_at l n hn a cp os ao no co w0 _ hp0.fr hs hv (by omega) (SlR.own hp0.get0) (own_flat (sz := 1) (fun _ => rfl) (by decide) hp0.get0) (by omega)) ?_)
  rintro _ w5 ⟨f6, rfl, hb7, hf8⟩
  refine ⟨_, rfl, ?_⟩
  have hp9 := hp0.step hf8
  refine OPS.nil ?_
  refine thn_n ?_
  refine WP.test (p := Expl (valAt w0) l os) rfl hb7 (fun h10 => ?_) (fun h10 => ?_)
  · refine WP.seq ?_
    refine WP.pure {} [] [4, 5] [.slice ao no co, .bool true] .nil (by kernel_rfl) (fun b11 => ?_)
    refine thn_n ?_
    refine WP.ret ?_
    refine thn_r ?_
    refine bodyQ.of _ rfl [.slice ao no co, .bool true] ⟨rfl, rfl, trivial⟩ ?_
    exact ⟨true, ao, no, co, os, rfl, ⟨fun _ => ⟨[], by simp, h10, fun _ _ => trivial⟩, fun h => by cases h⟩, hp9⟩
  · refine WP.skip ?_
    refine thn_n ?_
    refine WP.seq ?_
    refine WP.seq ?_
    refine WP.pure {} [] [0, 1, 17, 18] [.slice a n cp, .slice ao no co, .int .i64 ((n : Nat) : Int), .int .i64 0] .nil (by kernel_rfl) (fun b12 => ?_)
    refine thn_n ?_
    refine WP.block ?_
    refine WP.loop (fun mz_ e13 w14 => ∃ (k : Nat), mz_ = l.length - k ∧ (k ≤ l.length ∧ ∀ j, j < k → ∀ q, ¬ Expl (valAt w0) l (os ++ j :: q)) ∧ List.map e13 [0, 1, 17, 18] = [.slice a n cp, .slice ao no co, .int .i64 ((n : Nat) : Int), .int .i64 (k : Int)] ∧ Hp w0 Non (Res.own 3 1 (.slice ao no co) no (List.flatMap (fun (y : Nat) => [Go.Value.int .i64 (y : Int)]) os) :: L) w14) (l.length - (0)) ⟨0, rfl, ⟨by omega, fun j hj => by omega⟩, by kernel_rfl, hp9⟩ ?_
    rintro _ e13 w14 ⟨k, rfl, hI16, hE17, hp15⟩
    obtain ⟨b18, rfl⟩ := toMk hE17
    clear hE17
    obtain ⟨h1, hnone⟩ := hI16
    refine WP.seq ?_
    refine WP.pure {} [] [0, 1, 17, 18, 19] [.slice a n cp, .slice ao no co, .int .i64 ((n : Nat) : Int), .int .i64 (k : Int), .bool (decide ((k : Int) < ((n : Nat) : Int)))] .nil (by kernel_rfl) (fun b19 => ?_)
    refine thn_n ?_
    refine WP.seq ?_
    refine WP.test (p := (k : Int) < ((n : Nat) : Int)) rfl Bp.dec (fun h20 => ?_) (fun h20 => ?_)
    · refine WP.skip ?_
      refine thn_n ?_
      refine WP.seq ?_
      refine WP.block ?_
      refine WP.seq ?_
      refine WP.pure {} [] [0, 1, 6, 17, 18] [.slice a n cp, .slice ao no co, .int .i64 (k : Int), .int .i64 ((n : Nat) : Int), .int .i64 (k : Int)] .nil (by kernel_rfl) (fun b21 => ?_)
      refine thn_n ?_
      refine WP.seq ?_
      refine WP.pure {} [] [0, 1, 6, 7, 17, 18] [.slice a n cp, .slice ao no co, .int .i64 (k : Int), .bool false, .int .i64 ((n : Nat) : Int), .int .i64 (k : Int)] .nil (by kernel_rfl) (fun b22 => ?_)
      refine thn_n ?_
      refine WP.seq ?_
      refine WP.seq ?_
      refine WP.pure {} [] [0, 1, 6, 7, 17, 18, 21, 22, 23] [.slice a n cp, .slice ao no co, .int .i64 (k : Int), .bool false, .int .i64 ((n : Nat) : Int), .int .i64 (k : Int), .slice ao no co, .int .i64 ((no : Nat) : Int), .int .i64 0] .nil (by kernel_rfl) (fun b23 => ?_)
      refine thn_n ?_
      refine WP.block ?_
      refine WP.loop (fun mz_ e24 w25 => ∃ (m : Nat) (fl : Bool), mz_ = os.length - m ∧ (m ≤ os.length ∧ (fl = true ↔ k ∈ os.take m)) ∧ List.map e24 [0, 1, 6, 7, 17, 18, 21, 22, 23] = [.slice a n cp, .slice ao no co, .int .i64 (k : Int), .bool fl, .int .i64 ((n : Nat) : Int), .int .i64 (k : Int), .slice ao no co, .int .i64 ((no : Nat) : Int), .int .i64 (m : Int)] ∧ Hp w0 Non (Res.own 3 1 (.slice ao no co) no (List.flatMap (fun (y : Nat) => [Go.Value.int .i64 (y : Int)]) os) :: L) w25) (os.length - (0)) ⟨0, false, rfl, ⟨by omega, by simp⟩, by kernel_rfl, hp15⟩ ?_
      rintro _ e24 w25 ⟨m, fl, rfl, hI27, hE28, hp26⟩
      obtain ⟨b29, rfl⟩ := toMk hE28
      clear hE28
      obtain ⟨hm, hfl⟩ := hI27
      refine WP.seq ?_
      refine WP.pure {} [] [0, 1, 6, 7, 17, 18, 21, 22, 23, 24] [.slice a n cp, .slice ao no co, .int .i64 (k : Int), .bool fl, .int .i64 ((n : Nat) : Int), .int .i64 (k : Int), .slice ao no co, .int .i64 ((no : Nat) : Int), .int .i64 (m : Int), .bool (decide ((m : Int) < ((no : Nat) : Int)))] .nil (by kernel_rfl) (fun b30 => ?_)
      refine thn_n ?_
      refine WP.seq ?_
      refine WP.test (p := (m : Int) < ((no : Nat) : Int)) rfl Bp.dec (fun h31 => ?_) (fun h31 => ?_)
      · refine WP.skip ?_
        refine thn_n ?_
        refine WP.seq ?_
        refine WP.block ?_
        refine WP.seq ?_
        have := own_flat (sz := 1) (fun _ => rfl) (by decide) hp26.get0
        have hy33 : (os)[m]? = some os[m]! := get_bang (by first | (omega) | (simp only [List.length_append, List.length_cons, List.length_nil]; omega))
        refine WP.pure {} [.int .i64 ((os[m]! : Nat) : Int)] [0, 1, 6, 7, 9, 17, 18, 21, 22, 23] [.slice a n cp, .slice ao no co, .int .i64 (k : Int), .bool fl, .int .i64 ((os[m]! : Nat) : Int), .int .i64 ((n : Nat) : Int), .int .i64 (k : Int), .slice ao no co, .int .i64 ((no : Nat) : Int), .int .i64 (m : Int)] (.cons (show InB ((m : Int)) (no) from ⟨by omega, by omega⟩) (.cons ((SlR.own (hp26.get0)).some (by omega)) (.cons (Ld.add0 (Ld.el1 (P := Try.prog) (t := 3) (SlR.own (hp26.get0)).rd 1 (fun _ => rfl) hy33 (o := 0) (v := .int .i64 ((os[m]! : Nat) : Int)) (by kernel_rfl))) .nil))) (by kernel_rfl) (fun b34 => ?_)
        refine thn_n ?_
        refine WP.region _ rfl (by kernel_rfl) ?_
        refine OPS.batch 2 {} [] [0, 1, 6, 9, 17, 18, 21, 22, 23, 28] [.slice a n cp, .slice ao no co, .int .i64 (k : Int), .int .i64 ((os[m]! : Nat) : Int), .int .i64 ((n : Nat) : Int), .int .i64 (k : Int), .slice ao no co, .int .i64 ((no : Nat) : Int), .int .i64 (m : Int), .bool fl] .nil (by kernel_rfl) (fun b35 => ?_)
        by_cases h36 : fl = true
        · refine OPS.batch 0 {} [] [0, 1, 6, 9, 17, 18, 21, 22, 23, 28] [.slice a n cp, .slice ao no co, .int .i64 (k : Int), .int .i64 ((os[m]! : Nat) : Int), .int .i64 ((n : Nat) : Int), .int .i64 (k : Int), .slice ao no co, .int .i64 ((no : Nat) : Int), .int .i64 (m : Int), .bool fl] .nil (by kernel_rfl) (fun b37 => ?_)
          refine OPS.re [.slice a n cp, .slice ao no co, .int .i64 (k : Int), .int .i64 ((os[m]! : Nat) : Int), .int .i64 ((n : Nat) : Int), .int .i64 (k : Int), .slice ao no co, .int .i64 ((no : Nat) : Int), .int .i64 (m : Int), .bool true] (by rw [show fl = true from Bp.var.tt h36]) ?_
          refine OPS.batch 5 { wraps := [32] } [] [0, 1, 6, 7, 17, 18, 21, 22, 23] [.slice a n cp, .slice ao no co, .int .i64 (k : Int), .bool true, .int .i64 ((n : Nat) : Int), .int .i64 (k : Int), .slice ao no co, .int .i64 ((no : Nat) : Int), .int .i64 (m : Int)] .nil (by kernel_rfl) (fun b38 => ?_)
          refine OPS.nil ?_
          refine blk_n ?_
          refine thn_n ?_
          refine WP.pure {} [] [0, 1, 6, 7, 17, 18, 21, 22, 23] [.slice a n cp, .slice ao no co, .int .i64 (k : Int), .bool true, .int .i64 ((n : Nat) : Int), .int .i64 (k : Int), .slice ao no co, .int .i64 ((no : Nat) : Int), .int .i64 ((m : Int) + 1)] (.cons (show Rng .i64 ((m : Int) + 1) from Rng.i64 (by omega)) .nil) (by kernel_rfl) (fun b39 => ?_)
          refine thn_n ?_
          exact ⟨os.length - (m + 1), (by omega), m + 1, true, rfl, ⟨by omega, mem_step (by omega) Bp.t (by rw [← hfl]; simp_all <;> omega)⟩, by kernel_rfl, hp26⟩
        · refine OPS.batch 0 {} [] [0, 1, 6, 9, 17, 18, 21, 22, 23, 28] [.slice a n cp, .slice ao no co, .int .i64 (k : Int), .int .i64 ((os[m]! : Nat) : Int), .int .i64 ((n : Nat) : Int), .int .i64 (k : Int), .slice ao no co, .int .i64 ((no : Nat) : Int), .int .i64 (m : Int), .bool fl] .nil (by kernel_rfl) (fun b40 => ?_)
          refine OPS.re [.slice a n cp, .slice ao no co, .int .i64 (k : Int), .int .i64 ((os[m]! : Nat) : Int), .int .i64 ((n : Nat) : Int), .int .i64 (k : Int), .slice ao no co, .int .i64 ((no : Nat) : Int), .int .i64 (m : Int), .bool false] (by rw [show fl = false from Bp.var.ff h36]) ?_
          refine OPS.batch 5 { wraps := [32] } [] [0, 1, 6, 7, 17, 18, 21, 22, 23] [.slice a n cp, .slice ao no co, .int .i64 (k : Int), .bool (decide ((k : Int) = ((os[m]! : Nat) : Int))), .int .i64 ((n : Nat) : Int), .int .i64 (k : Int), .slice ao no co, .int .i64 ((no : Nat) : Int), .int .i64 (m : Int)] .nil (by kernel_rfl) (fun b41 => ?_)
          refine OPS.nil ?_
          refine blk_n ?_
          refine thn_n ?_
          refine WP.pure {} [] [0, 1, 6, 7, 17, 18, 21, 22, 23] [.slice a n cp, .slice ao no co, .int .i64 (k : Int), .bool (decide ((k : Int) = ((os[m]! : Nat) : Int))), .int .i64 ((n : Nat) : Int), .int .i64 (k : Int), .slice ao no co, .int .i64 ((no : Nat) : Int), .int .i64 ((m : Int) + 1)] (.cons (show Rng .i64 ((m : Int) + 1) from Rng.i64 (by omega)) .nil) (by kernel_rfl) (fun b42 => ?_)
          refine thn_n ?_
          exact ⟨os.length - (m + 1), (by omega), m + 1, decide ((k : Int) = ((os[m]! : Nat) : Int)), rfl, ⟨by omega, mem_step (by omega) Bp.dec (by rw [← hfl]; simp_all <;> omega)⟩, by kernel_rfl, hp26⟩
      · refine WP.exit ?_
        refine thn_x ?_
        refine thn_x ?_
        refine blk_hit ?_
        refine thn_n ?_
        refine WP.seq ?_
        refine WP.seq ?_
        refine WP.pure {} [] [0, 1, 6, 17, 18, 34] [.slice a n cp, .slice ao no co, .int .i64 (k : Int), .int .i64 ((n : Nat) : Int), .int .i64 (k : Int), .bool fl] .nil (by kernel_rfl) (fun b43 => ?_)
        refine thn_n ?_
        refine WP.test (p := fl = true) rfl Bp.var (fun h44 => ?_) (fun h44 => ?_)
        · refine WP.exit ?_
          refine thn_x ?_
          refine blk_hit ?_
          refine thn_n ?_
          refine WP.pure {} [] [0, 1, 17, 18] [.slice a n cp, .slice ao no co, .int .i64 ((n : Nat) : Int), .int .i64 ((k : Int) + 1)] (.cons (show Rng .i64 ((k : Int) + 1) from Rng.i64 (by omega)) .nil) (by kernel_rfl) (fun b45 => ?_)
          refine thn_n ?_
          have hnn : ∀ q, ¬ Expl (valAt w0) l (os ++ k :: q) := least_skip (by have := hfl.1 h44; rwa [List.take_of_length_le (by omega)] at this)
          exact ⟨l.length - (k + 1), (by omega), k + 1, rfl, ⟨by omega, fun j hj => by rcases Nat.lt_or_ge j k with q | q; exact hnone j q; (obtain rfl : j = k := by omega); exact hnn⟩, by kernel_rfl, hp26⟩
        · refine WP.skip ?_
          refine thn_n ?_
          refine WP.seq ?_
          refine WP.region _ rfl (by kernel_rfl) ?_
          refine OPS.batch 1 {} [] [0, 1, 6, 17, 18, 36] [.slice a n cp, .slice ao no co, .int .i64 (k : Int), .int .i64 ((n : Nat) : Int), .int .i64 (k : Int), .slice a n cp] .nil (by kernel_rfl) (fun b46 => ?_)
          refine OPS.cons (opStep.buildSlice0 (E := 3) hp26 (by kernel_rfl) (fun g49 w47 hp48 => ?_))
          refine OPS.batch 1 {} [] [0, 1, 6, 17, 18, 36, 37, 38] [.slice a n cp, .slice ao no co, .int .i64 (k : Int), .int .i64 ((n : Nat) : Int), .int .i64 (k : Int), .slice a n cp, .slice (some ⟨g49, 0, none⟩) 0 0, .slice ao no co] .nil (by kernel_rfl) (fun b50 => ?_)
          have hp53 := hp48.pull0
          have hp54 := (show Hp w0 Non (Res.own 3 1 (.slice (some ⟨g49, 0, none⟩) 0 0) 0 (List.flatMap (fun (y : Nat) => [Go.Value.int .i64 (y : Int)]) []) :: Res.own 3 1 (.slice ao no co) no (List.flatMap (fun (y : Nat) => [Go.Value.int .i64 (y : Int)]) os) :: L) w47 from hp53.rowOwn 1)
          refine OPS.cons (opStep.appendS (A := []) hp54 8 (by kernel_rfl) rfl rfl (SlR.own (hp54.get1)) (flat_n (fun _ => rfl) (own_flat (sz := 1) (fun _ => rfl) (by decide) hp54.get1)) (one_flat (fun _ => rfl)) (by decide) (by omega) (by omega) (fun a55 c56 w57 hp58 => ?_))
          rw [show List.flatMap (fun (y : Nat) => [Go.Value.int .i64 (y : Int)]) [] ++ List.flatMap (fun (y : Nat) => [Go.Value.int .i64 (y : Int)]) os = List.flatMap (fun (y : Nat) => [Go.Value.int .i64 (y : Int)]) (os) from rfl] at hp58
          simp only [List.cons_append, List.nil_append] at hp58
          refine OPS.batch 1 {} [] [0, 1, 17, 18, 36, 39, 40] [.slice a n cp, .slice ao no co, .int .i64 ((n : Nat) : Int), .int .i64 (k : Int), .slice a n cp, .slice a55 (0 + no) c56, .int .i64 (k : Int)] .nil (by kernel_rfl) (fun b59 => ?_)
          refine OPS.cons (opStep.buildSlice (E := 3) hp58 [.int .i64 (k : Int)] (by kernel_rfl) (fun g62 w60 hp61 => ?_))
          refine OPS.cons (opStep.append1 [.int .i64 (k : Int)] hp61 8 (by kernel_rfl) rfl rfl rfl (SlR.row (n := 1) hp61.get0 rfl).rd (List.all_eq_true.1 (by kernel_rfl)) (by decide) (by omega) (by omega) (fun a65 c66 w67 hp68 hn69 => ?_))
          rw [(show List.flatMap (fun (y : Nat) => [Go.Value.int .i64 (y : Int)]) os ++ [.int .i64 (k : Int)] = List.flatMap (fun (y : Nat) => [Go.Value.int .i64 (y : Int)]) (os ++ [k]) from (List.flatMap_append (xs := os) (ys := [k])).symm)] at hp68
          have hp72 := hp68.pull1
          have hnk : ¬ k ∈ os := fun hq => h44 (hfl.2 (by rw [List.take_of_length_le (by omega)]; exact hq))
          have hpk := pre0_snoc hpre (k := k) (by omega) hnk
          have hpl := pre0_len hpk
          rw [List.length_append, List.length_singleton] at hpl
          refine OPS.cons (opStep.call (some 43) [.slice a n cp, .slice a65 (0 + no + 1) c66] (by kernel_rfl) (ih _ a65 (0 + no + 1) c66 (os ++ [k]) _ hpk hp72 (by rw [List.length_append, List.length_singleton]; omega)) ?_)
          rintro _ w73 ⟨ok75, ao76, no77, co78, os79, rfl, hr80, hp74⟩
          refine ⟨_, rfl, ?_⟩
          obtain ⟨hr1, hr2⟩ := hr80
          cases ok75
          · refine OPS.batch 5 {} [] [0, 1, 10, 11, 17, 18] [.slice a n cp, .slice ao no co, .slice ao76 no77 co78, .bool false, .int .i64 ((n : Nat) : Int), .int .i64 (k : Int)] .nil (by kernel_rfl) (fun b81 => ?_)
            refine OPS.nil ?_
            refine thn_n ?_
            refine WP.seq ?_
            refine WP.pure {} [] [0, 1, 10, 17, 18, 46] [.slice a n cp, .slice ao no co, .slice ao76 no77 co78, .int .i64 ((n : Nat) : Int), .int .i64 (k : Int), .bool false] .nil (by kernel_rfl) (fun b82 => ?_)
            refine thn_n ?_
            refine WP.condF rfl ?_
            refine WP.skip ?_
            refine blk_n ?_
            refine thn_n ?_
            refine WP.pure {} [] [0, 1, 17, 18] [.slice a n cp, .slice ao no co, .int .i64 ((n : Nat) : Int), .int .i64 ((k : Int) + 1)] (.cons (show Rng .i64 ((k : Int) + 1) from Rng.i64 (by omega)) .nil) (by kernel_rfl) (fun b83 => ?_)
            refine thn_n ?_
            have hnn : ∀ q, ¬ Expl (valAt w0) l (os ++ k :: q) := fun q hq => (hr2 rfl).2 q (by rw [List.append_assoc]; exact hq)
            exact ⟨l.length - (k + 1), (by omega), k + 1, rfl, ⟨by omega, fun j hj => by rcases Nat.lt_or_ge j k with q | q; exact hnone j q; (obtain rfl : j = k := by omega); exact hnn⟩, by kernel_rfl, (hp74.sub (.cons _ (.cons _ (.cons_cons _ (.refl _)))))⟩
          · refine OPS.batch 5 {} [] [0, 1, 10, 11, 17, 18] [.slice a n cp, .slice ao no co, .slice ao76 no77 co78, .bool true, .int .i64 ((n : Nat) : Int), .int .i64 (k : Int)] .nil (by kernel_rfl) (fun b84 => ?_)
            refine OPS.nil ?_
            refine thn_n ?_
            refine WP.seq ?_
            refine WP.pure {} [] [0, 1, 10, 17, 18, 46] [.slice a n cp, .slice ao no co, .slice ao76 no77 co78, .int .i64 ((n : Nat) : Int), .int .i64 (k : Int), .bool true] .nil (by kernel_rfl) (fun b85 => ?_)
            refine thn_n ?_
            refine WP.condT rfl ?_
            refine WP.seq ?_
            refine WP.pure {} [] [4, 5] [.slice ao76 no77 co78, .bool true] .nil (by kernel_rfl) (fun b86 => ?_)
            refine thn_n ?_
            refine WP.ret ?_
            refine blk_r ?_
            refine thn_r ?_
            refine thn_r ?_
            refine blk_r ?_
            refine thn_r ?_
            refine bodyQ.of _ rfl [.slice ao76 no77 co78, .bool true] ⟨rfl, rfl, trivial⟩ ?_
            exact ⟨true, ao76, no77, co78, os79, rfl, ⟨fun _ => by obtain ⟨q, e1, e2, e3⟩ := hr1 rfl; exact ⟨k :: q, by rw [e1]; simp, e2, least_cons h10 hnone e3⟩, fun h => by cases h⟩, (hp74.sub (.cons_cons _ (.cons _ (.cons _ (.refl _)))))⟩
    · refine WP.exit ?_
      refine thn_x ?_
      refine thn_x ?_
      refine blk_hit ?_
      refine thn_n ?_
      refine WP.seq ?_
      refine WP.pure {} [] [4, 5] [.slice none 0 0, .bool false] .nil (by kernel_rfl) (fun b87 => ?_)
      refine thn_n ?_
      refine WP.ret ?_
      refine bodyQ.of _ rfl [.slice none 0 0, .bool false] ⟨rfl, rfl, trivial⟩ ?_
      have hp88 := ((hp15.sub (.cons _ (.refl _)))).nilOwn 3 1
      exact ⟨false, none, 0, 0, [], rfl, ⟨fun h => absurd h (by decide), fun _ => ⟨rfl, least_none h10 (fun j hj => hnone j (by omega))⟩⟩, hp88⟩

theorem least_all (w0 : World) (l : List GCall) (n : Nat) (hn : l.length = n) (a : Option Addr) (cp : Nat) (hs : SlR w0 a n (l.flatMap GCall.cells)) (hv : ∀ x ∈ l, VB w0 x.Value) (hll : l.length ≤ 1000000) : ∀ (mm : Nat) (L : List Res) (ao : Option Addr) (no co : Nat) (os : List Nat) (w : World) (hpre : Pre0 l os) (hp0 : Hp w0 Non (Res.own 3 1 (.slice ao no co) no (List.flatMap (fun (y : Nat) => [Go.Value.int .i64 (y : Int)]) os) :: L) w), l.length - os.length ≤ mm → Calls Try.prog 26 #[.slice a n cp, .slice ao no co] w (fun x w' => ∃ (ok : Bool) (ao' : Option Addr) (no' co' : Nat) (os' : List Nat), x = .returned (.tuple #[.slice ao' no' co', .bool ok]) ∧ leastR (valAt w0) l os ok os' ∧ Hp w0 Non (Res.own 3 1 (.slice ao' no' co') no' (List.flatMap (fun (y : Nat) => [Go.Value.int .i64 (y : Int)]) os') :: L) w') := by
  intro mm
  induction mm with
  | zero => intro L ao no co os w hpre hp0 hmm; exact least_step w0 l n hn a cp hs hv hll 0 (fun L ao no co os w hpre hp0 hmm => absurd hmm (by omega)) L ao no co os w hpre hp0 hmm
  | succ mm ih => intro L ao no co os w hpre hp0 hmm; exact least_step w0 l n hn a cp hs hv hll (mm + 1) (fun L ao no co os w hpre hp0 hmm => ih L ao no co os w hpre hp0 (by omega)) L ao no co os w hpre hp0 hmm
theorem least_top (w : World) (l : List GCall) (n : Nat) (hn : l.length = n) (a : Option Addr) (cp : Nat) (hs : SlR w a n (l.flatMap GCall.cells)) (hv : ∀ x ∈ l, VB w x.Value) (hll : l.length ≤ 1000000) :
    Calls Try.prog 26 #[.slice a n cp, .slice none 0 0] w (fun x w' => ∃ (ok : Bool) (ao' : Option Addr) (no' co' : Nat) (os' : List Nat), x = .returned (.tuple #[.slice ao' no' co', .bool ok]) ∧ leastR (valAt w) l [] ok os' ∧ Hp w Non [Res.own 3 1 (.slice ao' no' co') no' (List.flatMap (fun (y : Nat) => [Go.Value.int .i64 (y : Int)]) os')] w') :=
  least_all w l n hn a cp hs hv hll _ [] none 0 0 [] w ⟨List.nodup_nil, fun x hx => by cases hx⟩ ((Hp.init w).nilOwn 3 1) (Nat.le_refl _)

end Go.Proofs.Ythdkbbpiaeaojaa.K
