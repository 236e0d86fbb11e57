/- The walks of LawM: what each function computes. -/
import Derived.Test.YthdkbbpiaeaojaaProg
import Derived.Test.YthdkbbpiaeaojaaCoreO
import Derived.Test.YthdkbbpiaeaojaaLinG
namespace Go.Proofs.Ythdkbbpiaeaojaa.K
open Go Go.Proofs Go.RowKit
set_option linter.unusedVariables false
set_option linter.unusedSimpArgs false
set_option maxRecDepth 20000
set_option maxHeartbeats 4000000

theorem lin_OneN (l : List GCall) (n : Nat) (hn : l.length = n) (a : Option Addr) (cp : Nat) (w : World) (hs : SlR w a n (l.flatMap GCall.cells)) (hv : ∀ x ∈ l, VB w x.Value) (hll : l.length ≤ 8796093022207) :
    Calls Try.prog 21 #[.slice a n cp] w (fun x w' => ∃ (xs : List Nat) (ok : Bool) (e : Int) (ao : Option Addr) (no co : Nat), x = .returned (.tuple #[.slice ao no co, .bool ok, .int .i64 e]) ∧ oneA (valAt w) l xs ok e ∧ Hp w Non [Res.own 3 1 (.slice ao no co) no (List.flatMap (fun (y : Nat) => [Go.Value.int .i64 (y : Int)]) xs)] w') := by
  subst hn
  refine (lin_One l a cp w hs hv hll).mono ?_
  rintro _ w' ⟨xs, ok, e, ao, no, co, rfl, hx, hn⟩
  exact ⟨xs, ok, e, ao, no, co, rfl, oneR_iff.1 hx, hn⟩
theorem expl_N (l : List GCall) (n : Nat) (hn : l.length = n) (a : Option Addr) (cp : Nat) (os : List Nat) (ao : Option Addr) (no co : Nat) (w : World) (hs : SlR w a n (l.flatMap GCall.cells)) (hv : ∀ x ∈ l, VB w x.Value) (hll : l.length ≤ 8796093022207) (h2 : SlR w ao no (List.flatMap (fun (y : Nat) => [Go.Value.int .i64 (y : Int)]) os)) (hno : os.length = no) (hol : no ≤ 8796093022207) :
    Calls Try.prog 27 #[.slice a n cp, .slice ao no co] w (fun r_ w' => ∃ f_, r_ = .returned (.bool f_) ∧ Bp f_ (Expl (valAt w) l os) ∧ Fram Non w w') := by
  subst hn
  exact law20_explains l a cp os ao no co w hs hv hll h2 hno hol

theorem law20_mod (n k : Int) (w : World) (hk : 0 < k) (hk2 : k ≤ 1000000) :
    Calls Try.prog 30 #[.int .i64 n, .int .i64 k] w (fun r_ w' => r_ = .returned (.int .i64 (modI n k)) ∧ Fram Non w w') := by
  have t1 := Int.tmod_lt_of_pos n hk
  have t2 := Int.tmod_lt_of_pos (-n) hk
  rw [Int.neg_tmod] at t2
  have t3 := modI_bd n hk
  unfold modI at t3
  refine calls_of Try.func30 rfl 12 rfl (by simp) ?_
  have hp0 := Hp.init w
  have he0 : List.map (env0 [.int .i64 n, .int .i64 k]) [0, 1] = [.int .i64 n, .int .i64 k] := by kernel_rfl
  obtain ⟨b0, he0⟩ := toMk he0
  rw [he0]
  clear he0
  refine WP.seq ?_
  refine WP.pure {} [] [0, 1] [.int .i64 n, .int .i64 k] .nil (by kernel_rfl) (fun b1 => ?_)
  refine thn_n ?_
  refine WP.seq ?_
  refine WP.pure {} [] [4] [.int .i64 (((n.tmod k) + k).tmod k)] (.cons (show (k : Int) ≠ 0 from by omega) (.cons (show Rng .i64 ((n.tmod k) + k) from Rng.i64 (by omega)) (.cons (show (k : Int) ≠ 0 from by omega) .nil))) (by kernel_rfl) (fun b2 => ?_)
  refine thn_n ?_
  refine WP.ret ?_
  refine bodyQ.of _ rfl [.int .i64 (((n.tmod k) + k).tmod k)] ⟨rfl, trivial⟩ ?_
  exact ⟨rfl, hp0.fr⟩

end Go.Proofs.Ythdkbbpiaeaojaa.K
