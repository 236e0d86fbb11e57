/- The walks of SetA: what each function computes. -/
import Derived.Test.YtoeholipggkcaaaProg
import Derived.Test.YtoeholipggkcaaaCoreO
import Derived.Test.YtoeholipggkcaaaTag
import Derived.Test.YtoeholipggkcaaaInsB
import Derived.Test.YtoeholipggkcaaaCoreI
namespace Go.Proofs.Ytoeholipggkcaaa.K
open Go Go.Proofs Go.RowKit
set_option linter.unusedVariables false
set_option linter.unusedSimpArgs false
set_option maxRecDepth 20000
set_option maxHeartbeats 4000000

theorem row_at {w w' : World} {b : Nat} {c : List Go.Value} {t : TypeId} (h : (Res.row b c t).holds w) (hf : Fram Non w w') : (Res.row b c t).holds w' := (Res.row b c t).stable (fun k hk => by
  have hk : k = b := hk
  subst hk
  exact hf.block k (Array.getElem?_eq_some_iff.1 h).1 (fun q => q)) h
theorem enter_of {f : FuncId} {fn : Func} (hf : Try.prog.funcs[f]? = some fn) (hb : fn.body.isNone = false) (hn : (fn.name == "runtime.NumGoroutine") = false) : ∀ args w, (callFunc f args).run Try.prog w = .ok (.enter f args) w := fun _ _ => callFunc_enter hf hb hn
/-- A test of numbers below n. -/
def TestOk (w : World) (h : FuncId) (cap : Array Go.Value) (n : Nat) (Pw : Nat → Prop) : Prop := (∀ args w, (callFunc h args).run Try.prog w = .ok (.enter h args) w) ∧
  ∀ w', Fram Non w w' → ∀ i : Nat, i < n → Calls Try.prog h (Go.Value.int .i64 (i : Int) :: cap.toList).toArray w' fun x w'' => ∃ f, x = .returned (.bool f) ∧ Bp f (Pw i) ∧ Fram Non w' w''
theorem tag_search (n : Nat) (hn : n ≤ 8796093022207) (h : FuncId) (cap : Array Go.Value) (Pw : Nat → Prop) (w : World) (hwh : TestOk w h cap n Pw) :
    Calls Try.prog 28 #[.int .i64 ((n : Nat) : Int), .func (.func h) #[] cap] w (fun r_ w' => ∃ at_ : Nat, r_ = .returned (.int .i64 (at_ : Int)) ∧ (at_ ≤ n ∧ (0 < at_ → ¬ Pw (at_ - 1)) ∧ (at_ < n → Pw at_)) ∧ Fram Non w w') := by
  refine calls_of Try.func28 rfl 21 rfl (by simp) ?_
  have hp0 := Hp.init w
  have he0 : List.map (env0 [.int .i64 ((n : Nat) : Int), .func (.func h) #[] cap]) [0, 1] = [.int .i64 ((n : Nat) : Int), .func (.func h) #[] cap] := by kernel_rfl
  obtain ⟨b0, he0⟩ := toMk he0
  rw [he0]
  clear he0
  refine WP.seq ?_
  refine WP.pure {} [] [0, 1] [.int .i64 ((n : Nat) : Int), .func (.func h) #[] cap] .nil (by kernel_rfl) (fun b1 => ?_)
  refine thn_n ?_
  refine WP.seq ?_
  refine WP.pure {} [] [0, 1, 5] [.int .i64 ((n : Nat) : Int), .func (.func h) #[] cap, .int .i64 0] .nil (by kernel_rfl) (fun b2 => ?_)
  refine thn_n ?_
  refine WP.seq ?_
  refine WP.block ?_
  refine WP.loop (fun mz_ e3 w4 => ∃ (lo : Nat) (hi : Nat), mz_ = hi - lo ∧ (lo ≤ hi ∧ hi ≤ n ∧ (0 < lo → ¬ Pw (lo - 1)) ∧ (hi < n → Pw hi)) ∧ List.map e3 [0, 1, 5] = [.int .i64 ((hi : Nat) : Int), .func (.func h) #[] cap, .int .i64 ((lo : Nat) : Int)] ∧ Hp w Non [] w4) ((n) - (0)) ⟨0, n, rfl, ⟨by omega, by omega, fun h => by omega, fun h => by omega⟩, by kernel_rfl, hp0⟩ ?_
  rintro _ e3 w4 ⟨lo, hi, rfl, hI6, hE7, hp5⟩
  obtain ⟨b8, rfl⟩ := toMk hE7
  clear hE7
  obtain ⟨pa, pb, pc, pd⟩ := hI6
  have hdv : ((lo + hi : Nat) : Int).tdiv 2 = (((lo + hi) / 2 : Nat) : Int) := rfl
  refine WP.seq ?_
  refine WP.seq ?_
  refine WP.pure {} [] [0, 1, 5, 9] [.int .i64 ((hi : Nat) : Int), .func (.func h) #[] cap, .int .i64 ((lo : Nat) : Int), .bool (decide (((lo : Nat) : Int) < ((hi : Nat) : Int)))] .nil (by kernel_rfl) (fun b9 => ?_)
  refine thn_n ?_
  refine WP.test (p := ((lo : Nat) : Int) < ((hi : Nat) : Int)) rfl Bp.dec (fun h10 => ?_) (fun h10 => ?_)
  · refine WP.skip ?_
    refine thn_n ?_
    refine WP.block ?_
    refine WP.seq ?_
    refine WP.pure { subs := [12, 13] } [.int .i64 ((lo + hi : Nat) : Int), .int .i64 (((lo + hi) / 2 : Nat) : Int)] [0, 1, 5, 6] [.int .i64 ((hi : Nat) : Int), .func (.func h) #[] cap, .int .i64 ((lo : Nat) : Int), .int .i64 (((lo + hi) / 2 : Nat) : Int)] (.cons (show Rng .i64 (((lo : Nat) : Int) + ((hi : Nat) : Int)) from Rng.i64 (by omega)) (.cons (show (.int .i64 (((lo : Nat) : Int) + ((hi : Nat) : Int)) : Go.Value) = .int .i64 ((lo + hi : Nat) : Int) from congrArg (Value.int .i64) ((show ((lo : Nat) : Int) + ((hi : Nat) : Int) = ((lo + hi : Nat) : Int) by omega))) (.cons (show (2 : Int) ≠ 0 from by omega) (.cons (show Rng .i64 (((lo + hi : Nat) : Int).tdiv 2) from Rng.i64 (by omega)) (.cons (show (.int .i64 (((lo + hi : Nat) : Int).tdiv 2) : Go.Value) = .int .i64 (((lo + hi) / 2 : Nat) : Int) from congrArg (Value.int .i64) ((show ((lo + hi : Nat) : Int).tdiv 2 = (((lo + hi) / 2 : Nat) : Int) from rfl))) .nil))))) (by kernel_rfl) (fun b11 => ?_)
    refine thn_n ?_
    refine WP.seq ?_
    obtain ⟨mid, hmid⟩ : ∃ m, m = (lo + hi) / 2 := ⟨_, rfl⟩
    rw [← hmid]
    refine WP.region _ rfl (by kernel_rfl) ?_
    refine OPS.batch 2 {} [] [0, 1, 5, 6, 14, 15] [.int .i64 ((hi : Nat) : Int), .func (.func h) #[] cap, .int .i64 ((lo : Nat) : Int), .int .i64 ((mid : Nat) : Int), .func (.func h) #[] cap, .int .i64 ((mid : Nat) : Int)] .nil (by kernel_rfl) (fun b12 => ?_)
    refine OPS.cons (opStep.callE (some 16) (Go.Value.int .i64 ((mid : Nat) : Int) :: cap.toList) rfl hwh.1 rfl (hwh.2 _ hp5.fr mid (by omega)) ?_)
    rintro _ w15 ⟨b16, rfl, hb17, hf18⟩
    refine ⟨_, rfl, ?_⟩
    have hp19 := hp5.step hf18
    refine OPS.nil ?_
    refine thn_n ?_
    refine WP.test (p := Pw mid) rfl hb17 (fun h20 => ?_) (fun h20 => ?_)
    · refine WP.pure {} [] [0, 1, 5] [.int .i64 ((mid : Nat) : Int), .func (.func h) #[] cap, .int .i64 ((lo : Nat) : Int)] .nil (by kernel_rfl) (fun b21 => ?_)
      refine blk_n ?_
      refine thn_n ?_
      exact ⟨(mid) - (lo), (by omega), lo, mid, rfl, ⟨by omega, by omega, fun h => pc h, fun _ => h20⟩, by kernel_rfl, hp19⟩
    · refine WP.pure { subs := [19] } [.int .i64 ((mid + 1 : Nat) : Int)] [0, 1, 5] [.int .i64 ((hi : Nat) : Int), .func (.func h) #[] cap, .int .i64 ((mid + 1 : Nat) : Int)] (.cons (show Rng .i64 (((mid : Nat) : Int) + 1) from Rng.i64 (by omega)) (.cons (show (.int .i64 (((mid : Nat) : Int) + 1) : Go.Value) = .int .i64 ((mid + 1 : Nat) : Int) from congrArg (Value.int .i64) ((show ((mid : Nat) : Int) + 1 = ((mid + 1 : Nat) : Int) by omega))) .nil)) (by kernel_rfl) (fun b22 => ?_)
      refine blk_n ?_
      refine thn_n ?_
      exact ⟨(hi) - (mid + 1), (by omega), mid + 1, hi, rfl, ⟨by omega, by omega, fun _ => by rw [Nat.add_sub_cancel]; exact h20, pd⟩, by kernel_rfl, hp19⟩
  · refine WP.exit ?_
    refine thn_x ?_
    refine thn_x ?_
    refine blk_hit ?_
    refine thn_n ?_
    refine WP.seq ?_
    refine WP.pure {} [] [4] [.int .i64 ((lo : Nat) : Int)] .nil (by kernel_rfl) (fun b23 => ?_)
    refine thn_n ?_
    refine WP.ret ?_
    refine bodyQ.of _ rfl [.int .i64 ((lo : Nat) : Int)] ⟨rfl, trivial⟩ ?_
    obtain rfl : lo = hi := by omega
    exact ⟨lo, rfl, ⟨pb, pc, pd⟩, hp5.fr⟩

end Go.Proofs.Ytoeholipggkcaaa.K
