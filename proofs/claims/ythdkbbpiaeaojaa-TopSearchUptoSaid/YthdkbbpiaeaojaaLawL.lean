/- The walks of LawL: what each function computes. -/
import Derived.Test.YthdkbbpiaeaojaaProg
import Derived.Test.YthdkbbpiaeaojaaCoreO
import Derived.Test.YthdkbbpiaeaojaaLinF
import Derived.Test.YthdkbbpiaeaojaaCoreY
import Derived.Test.YthdkbbpiaeaojaaBitz
namespace Go.Proofs.Ythdkbbpiaeaojaa.K
open Go Go.Proofs Go.RowKit
set_option linter.unusedVariables false
set_option linter.unusedSimpArgs false
set_option maxRecDepth 20000
set_option maxHeartbeats 4000000

def putC (b c : Nat) (v : ByteArray) (f t : Int) : GCall := ⟨0, 0, true, ⟨#[107]⟩, ⟨some ⟨b, 0, none⟩, v.size, c⟩, 0, f, t, decide (t < 0), ⟨0, 0⟩⟩
def getC (b c : Nat) (v : ByteArray) (f t : Int) : GCall := ⟨0, 0, false, ⟨#[107]⟩, ⟨some ⟨b, 0, none⟩, v.size, c⟩, if v = ⟨#[]⟩ then 76 else 0, f, t, false, ⟨0, 0⟩⟩
def coreC (c : GCall) : Bool × Bool × Int × Int × Int := (c.Put, c.Open, c.From, c.To, c.Status)
theorem SimC.of {val val' : SlH → ByteArray} {l l' : List GCall} (hc : l.map coreC = l'.map coreC) (hv : l.map (fun c => val c.Value) = l'.map (fun c => val' c.Value)) : SimC val l val' l' := by
  have hl : l.length = l'.length := by have := congrArg List.length hc; simpa using this
  have hi : ∀ i, i < l.length → coreC l[i]! = coreC l'[i]! ∧ val l[i]!.Value = val' l'[i]!.Value := by
    intro i h
    have h1 := congrArg (fun z => z[i]?) hc
    have h2 := congrArg (fun z => z[i]?) hv
    simp only [List.getElem?_map, get_bang h, get_bang (l := l') (by omega : i < l'.length), Option.map_some, Option.some.injEq] at h1 h2
    exact ⟨h1, h2⟩
  have hp : ∀ i, i < l.length → l[i]!.Put = l'[i]!.Put ∧ l[i]!.Open = l'[i]!.Open ∧ l[i]!.From = l'[i]!.From ∧ l[i]!.To = l'[i]!.To ∧ l[i]!.Status = l'[i]!.Status := fun i h => by
    have := (hi i h).1
    simp only [coreC, Prod.mk.injEq] at this
    exact this
  exact ⟨hl, fun i h => (hp i h).1, fun i h => (hp i h).2.1, fun i h => (hp i h).2.2.1, fun i h => (hp i h).2.2.2.1, fun i h => (hp i h).2.2.2.2, fun i j h k => by rw [(hi i h).2, (hi j k).2]⟩
theorem oneF_of {val val' : SlH → ByteArray} {l l' : List GCall} {xs : List Nat} {ok : Bool} {e : Int} (h : oneA val l xs ok e) (hc : l.map coreC = l'.map coreC) (hv : l.map (fun c => val c.Value) = l'.map (fun c => val' c.Value)) : (xs, ok, e) = oneF val' l' := oneA_F ((SimC.of hc hv).one h)
/-- Values that are told by a number. -/
def tabV (vs : List ByteArray) (h : SlH) : ByteArray := vs.getD h.n ByteArray.empty
def atV (c : GCall) (k : Nat) : GCall := { c with Value := ⟨none, k, 0⟩ }

theorem law_put (v : ByteArray) (f t : Int) (w : World) :
    Calls Try.prog 29 #[.string v, .int .i64 f, .int .i64 t] w (fun r_ w' => ∃ b c, r_ = .returned (putC b c v f t).val ∧ Hp w Non [Res.bs b v] w') := by
  refine calls_of Try.func29 rfl 14 rfl (by simp) ?_
  have hp0 := Hp.init w
  have he0 : List.map (env0 [.string v, .int .i64 f, .int .i64 t]) [0, 1, 2] = [.string v, .int .i64 f, .int .i64 t] := by kernel_rfl
  obtain ⟨b0, he0⟩ := toMk he0
  rw [he0]
  clear he0
  refine WP.seq ?_
  refine WP.region _ rfl (by kernel_rfl) ?_
  refine OPS.cons (opStep.alloc hp0 [.int .i64 0, .int .i64 0, .bool false, .string ByteArray.empty, .slice none 0 0, .int .i64 0, .int .i64 0, .int .i64 0, .bool false, .int .i64 0, .int .i64 0] (by kernel_rfl) (fun g3 w1 hp2 => ?_))
  refine OPS.nil ?_
  refine thn_n ?_
  refine WP.seq ?_
  refine WP.region _ rfl (by kernel_rfl) ?_
  refine OPS.batch 1 {} [] [1, 2, 6, 7] [.int .i64 f, .int .i64 t, .pointer (some ⟨g3, 0, none⟩), .string v] .nil (by kernel_rfl) (fun b4 => ?_)
  refine OPS.cons (opStep.strBytes hp2 (by kernel_rfl) rfl (fun g7 c8 w5 hp6 => ?_))
  refine OPS.batch 5 {} [] [6, 13] [.pointer (some ⟨g3, 0, none⟩), .agg #[.int .i64 0, .int .i64 0, .bool true, .string ⟨#[107]⟩, .slice (some ⟨g7, 0, none⟩) v.size c8, .int .i64 0, .int .i64 f, .int .i64 t, .bool (decide (t < 0)), .int .i64 0, .int .i64 0]] .nil (by kernel_rfl) (fun b9 => ?_)
  refine OPS.cons (opStep.store1 hp6 rfl [.int .i64 0, .int .i64 0, .bool true, .string ⟨#[107]⟩, .slice (some ⟨g7, 0, none⟩) v.size c8, .int .i64 0, .int .i64 f, .int .i64 t, .bool (decide (t < 0)), .int .i64 0, .int .i64 0] [.int .i64 0, .int .i64 0, .bool true, .string ⟨#[107]⟩, .slice (some ⟨g7, 0, none⟩) v.size c8, .int .i64 0, .int .i64 f, .int .i64 t, .bool (decide (t < 0)), .int .i64 0, .int .i64 0] (by kernel_rfl) (fun w10 hp11 => ?_))
  refine OPS.nil ?_
  refine thn_n ?_
  refine WP.ret ?_
  refine bodyQ.of _ rfl [.agg #[.int .i64 0, .int .i64 0, .bool true, .string ⟨#[107]⟩, .slice (some ⟨g7, 0, none⟩) v.size c8, .int .i64 0, .int .i64 f, .int .i64 t, .bool (decide (t < 0)), .int .i64 0, .int .i64 0]] ⟨⟨_, rfl, (show Ld Try.prog w10 41 ⟨g3, 0, none⟩ (.agg #[.int .i64 0, .int .i64 0, .bool true, .string ⟨#[107]⟩, .slice (some ⟨g7, 0, none⟩) v.size c8, .int .i64 0, .int .i64 f, .int .i64 t, .bool (decide (t < 0)), .int .i64 0, .int .i64 0]) from Ld.rowN (cs := [.int .i64 0, .int .i64 0, .bool true, .string ⟨#[107]⟩, .slice (some ⟨g7, 0, none⟩) v.size c8, .int .i64 0, .int .i64 f, .int .i64 t, .bool (decide (t < 0)), .int .i64 0, .int .i64 0]) hp11.get1 (by kernel_rfl))⟩, trivial⟩ ?_
  exact ⟨_, _, rfl, (hp11.sub (.cons_cons _ (.cons _ (.slnil))))⟩

theorem law_get (v : ByteArray) (f t : Int) (w : World) :
    Calls Try.prog 79 #[.string v, .int .i64 f, .int .i64 t] w (fun r_ w' => ∃ b c, r_ = .returned (getC b c v f t).val ∧ Hp w Non [Res.bs b v] w') := by
  refine calls_of Try.func79 rfl 17 rfl (by simp) ?_
  have hp0 := Hp.init w
  have he0 : List.map (env0 [.string v, .int .i64 f, .int .i64 t]) [0, 1, 2] = [.string v, .int .i64 f, .int .i64 t] := by kernel_rfl
  obtain ⟨b0, he0⟩ := toMk he0
  rw [he0]
  clear he0
  refine WP.seq ?_
  refine WP.region _ rfl (by kernel_rfl) ?_
  refine OPS.cons (opStep.alloc hp0 [.int .i64 0, .int .i64 0, .bool false, .string ByteArray.empty, .slice none 0 0, .int .i64 0, .int .i64 0, .int .i64 0, .bool false, .int .i64 0, .int .i64 0] (by kernel_rfl) (fun g3 w1 hp2 => ?_))
  refine OPS.nil ?_
  refine thn_n ?_
  refine WP.seq ?_
  refine WP.region _ rfl (by kernel_rfl) ?_
  refine OPS.batch 1 {} [] [0, 1, 2, 6, 8] [.string v, .int .i64 f, .int .i64 t, .pointer (some ⟨g3, 0, none⟩), .string v] .nil (by kernel_rfl) (fun b4 => ?_)
  refine OPS.cons (opStep.strBytes hp2 (by kernel_rfl) rfl (fun g7 c8 w5 hp6 => ?_))
  refine OPS.batch 3 {} [] [0, 6, 12] [.string v, .pointer (some ⟨g3, 0, none⟩), .agg #[.int .i64 0, .int .i64 0, .bool false, .string ⟨#[107]⟩, .slice (some ⟨g7, 0, none⟩) v.size c8, .int .i64 0, .int .i64 f, .int .i64 t, .bool false, .int .i64 0, .int .i64 0]] .nil (by kernel_rfl) (fun b9 => ?_)
  refine OPS.cons (opStep.alloc hp6 [.int .i64 0, .int .i64 0, .bool false, .string ByteArray.empty, .slice none 0 0, .int .i64 0, .int .i64 0, .int .i64 0, .bool false, .int .i64 0, .int .i64 0] (by kernel_rfl) (fun g12 w10 hp11 => ?_))
  refine OPS.cons (opStep.store0 hp11 rfl [.int .i64 0, .int .i64 0, .bool false, .string ⟨#[107]⟩, .slice (some ⟨g7, 0, none⟩) v.size c8, .int .i64 0, .int .i64 f, .int .i64 t, .bool false, .int .i64 0, .int .i64 0] [.int .i64 0, .int .i64 0, .bool false, .string ⟨#[107]⟩, .slice (some ⟨g7, 0, none⟩) v.size c8, .int .i64 0, .int .i64 f, .int .i64 t, .bool false, .int .i64 0, .int .i64 0] (by kernel_rfl) (fun w13 hp14 => ?_))
  refine OPS.nil ?_
  refine thn_n ?_
  refine WP.seq ?_
  refine WP.seq ?_
  refine WP.pure {} [] [6, 7, 14] [.pointer (some ⟨g3, 0, none⟩), .pointer (some ⟨g12, 0, none⟩), .bool (decide (v = ⟨#[]⟩))] .nil (by kernel_rfl) (fun b15 => ?_)
  refine thn_n ?_
  refine WP.test (p := v = ⟨#[]⟩) rfl Bp.dec (fun h16 => ?_) (fun h16 => ?_)
  · refine WP.region _ rfl (by kernel_rfl) ?_
    refine OPS.batch 1 {} [] [6, 7, 15] [.pointer (some ⟨g3, 0, none⟩), .pointer (some ⟨g12, 0, none⟩), .pointer (some ⟨g12, 5, none⟩)] .nil (by kernel_rfl) (fun b17 => ?_)
    refine OPS.cons (opStep.store0 hp14 rfl [.int .i64 76] [.int .i64 0, .int .i64 0, .bool false, .string ⟨#[107]⟩, .slice (some ⟨g7, 0, none⟩) v.size c8, .int .i64 76, .int .i64 f, .int .i64 t, .bool false, .int .i64 0, .int .i64 0] (by kernel_rfl) (fun w18 hp19 => ?_))
    refine OPS.nil ?_
    refine thn_n ?_
    refine WP.seq ?_
    refine WP.region _ rfl (by kernel_rfl) ?_
    refine OPS.batch 1 {} [.agg #[.int .i64 0, .int .i64 0, .bool false, .string ⟨#[107]⟩, .slice (some ⟨g7, 0, none⟩) v.size c8, .int .i64 76, .int .i64 f, .int .i64 t, .bool false, .int .i64 0, .int .i64 0]] [6, 16] [.pointer (some ⟨g3, 0, none⟩), .agg #[.int .i64 0, .int .i64 0, .bool false, .string ⟨#[107]⟩, .slice (some ⟨g7, 0, none⟩) v.size c8, .int .i64 76, .int .i64 f, .int .i64 t, .bool false, .int .i64 0, .int .i64 0]] (.cons (show Ld Try.prog w18 41 ⟨g12, 0, none⟩ (.agg #[.int .i64 0, .int .i64 0, .bool false, .string ⟨#[107]⟩, .slice (some ⟨g7, 0, none⟩) v.size c8, .int .i64 76, .int .i64 f, .int .i64 t, .bool false, .int .i64 0, .int .i64 0]) from Ld.rowN (cs := [.int .i64 0, .int .i64 0, .bool false, .string ⟨#[107]⟩, .slice (some ⟨g7, 0, none⟩) v.size c8, .int .i64 76, .int .i64 f, .int .i64 t, .bool false, .int .i64 0, .int .i64 0]) hp19.get0 (by kernel_rfl)) .nil) (by kernel_rfl) (fun b20 => ?_)
    refine OPS.cons (opStep.store2 hp19 rfl [.int .i64 0, .int .i64 0, .bool false, .string ⟨#[107]⟩, .slice (some ⟨g7, 0, none⟩) v.size c8, .int .i64 76, .int .i64 f, .int .i64 t, .bool false, .int .i64 0, .int .i64 0] [.int .i64 0, .int .i64 0, .bool false, .string ⟨#[107]⟩, .slice (some ⟨g7, 0, none⟩) v.size c8, .int .i64 76, .int .i64 f, .int .i64 t, .bool false, .int .i64 0, .int .i64 0] (by kernel_rfl) (fun w21 hp22 => ?_))
    refine OPS.nil ?_
    refine thn_n ?_
    refine WP.ret ?_
    refine bodyQ.of _ rfl [.agg #[.int .i64 0, .int .i64 0, .bool false, .string ⟨#[107]⟩, .slice (some ⟨g7, 0, none⟩) v.size c8, .int .i64 76, .int .i64 f, .int .i64 t, .bool false, .int .i64 0, .int .i64 0]] ⟨⟨_, rfl, (show Ld Try.prog w21 41 ⟨g3, 0, none⟩ (.agg #[.int .i64 0, .int .i64 0, .bool false, .string ⟨#[107]⟩, .slice (some ⟨g7, 0, none⟩) v.size c8, .int .i64 76, .int .i64 f, .int .i64 t, .bool false, .int .i64 0, .int .i64 0]) from Ld.rowN (cs := [.int .i64 0, .int .i64 0, .bool false, .string ⟨#[107]⟩, .slice (some ⟨g7, 0, none⟩) v.size c8, .int .i64 76, .int .i64 f, .int .i64 t, .bool false, .int .i64 0, .int .i64 0]) hp22.get2 (by kernel_rfl))⟩, trivial⟩ ?_
    exact ⟨_, _, by simp only [pack, getC, GCall.val, GCall.cells]; rw [if_pos h16]; rfl, (hp22.sub (.cons _ (.cons_cons _ (.cons _ (.slnil)))))⟩
  · refine WP.skip ?_
    refine thn_n ?_
    refine WP.seq ?_
    refine WP.region _ rfl (by kernel_rfl) ?_
    refine OPS.batch 1 {} [.agg #[.int .i64 0, .int .i64 0, .bool false, .string ⟨#[107]⟩, .slice (some ⟨g7, 0, none⟩) v.size c8, .int .i64 0, .int .i64 f, .int .i64 t, .bool false, .int .i64 0, .int .i64 0]] [6, 16] [.pointer (some ⟨g3, 0, none⟩), .agg #[.int .i64 0, .int .i64 0, .bool false, .string ⟨#[107]⟩, .slice (some ⟨g7, 0, none⟩) v.size c8, .int .i64 0, .int .i64 f, .int .i64 t, .bool false, .int .i64 0, .int .i64 0]] (.cons (show Ld Try.prog w13 41 ⟨g12, 0, none⟩ (.agg #[.int .i64 0, .int .i64 0, .bool false, .string ⟨#[107]⟩, .slice (some ⟨g7, 0, none⟩) v.size c8, .int .i64 0, .int .i64 f, .int .i64 t, .bool false, .int .i64 0, .int .i64 0]) from Ld.rowN (cs := [.int .i64 0, .int .i64 0, .bool false, .string ⟨#[107]⟩, .slice (some ⟨g7, 0, none⟩) v.size c8, .int .i64 0, .int .i64 f, .int .i64 t, .bool false, .int .i64 0, .int .i64 0]) hp14.get0 (by kernel_rfl)) .nil) (by kernel_rfl) (fun b23 => ?_)
    refine OPS.cons (opStep.store2 hp14 rfl [.int .i64 0, .int .i64 0, .bool false, .string ⟨#[107]⟩, .slice (some ⟨g7, 0, none⟩) v.size c8, .int .i64 0, .int .i64 f, .int .i64 t, .bool false, .int .i64 0, .int .i64 0] [.int .i64 0, .int .i64 0, .bool false, .string ⟨#[107]⟩, .slice (some ⟨g7, 0, none⟩) v.size c8, .int .i64 0, .int .i64 f, .int .i64 t, .bool false, .int .i64 0, .int .i64 0] (by kernel_rfl) (fun w24 hp25 => ?_))
    refine OPS.nil ?_
    refine thn_n ?_
    refine WP.ret ?_
    refine bodyQ.of _ rfl [.agg #[.int .i64 0, .int .i64 0, .bool false, .string ⟨#[107]⟩, .slice (some ⟨g7, 0, none⟩) v.size c8, .int .i64 0, .int .i64 f, .int .i64 t, .bool false, .int .i64 0, .int .i64 0]] ⟨⟨_, rfl, (show Ld Try.prog w24 41 ⟨g3, 0, none⟩ (.agg #[.int .i64 0, .int .i64 0, .bool false, .string ⟨#[107]⟩, .slice (some ⟨g7, 0, none⟩) v.size c8, .int .i64 0, .int .i64 f, .int .i64 t, .bool false, .int .i64 0, .int .i64 0]) from Ld.rowN (cs := [.int .i64 0, .int .i64 0, .bool false, .string ⟨#[107]⟩, .slice (some ⟨g7, 0, none⟩) v.size c8, .int .i64 0, .int .i64 f, .int .i64 t, .bool false, .int .i64 0, .int .i64 0]) hp25.get2 (by kernel_rfl))⟩, trivial⟩ ?_
    exact ⟨_, _, by simp only [pack, getC, GCall.val, GCall.cells]; rw [if_neg h16]; rfl, (hp25.sub (.cons _ (.cons_cons _ (.cons _ (.slnil)))))⟩

def ints (l : List Nat) : List Int := l.map fun (x : Nat) => (x : Int)
theorem ints_len (l : List Nat) : (ints l).length = l.length := by simp [ints]
theorem ints_flat (l : List Nat) : List.flatMap (fun (y : Int) => [Go.Value.int .i64 y]) (ints l) = List.flatMap (fun (y : Nat) => [Go.Value.int .i64 (y : Int)]) l := by
  induction l with
  | nil => rfl
  | cons x l ih => simp only [ints, List.map_cons, List.flatMap_cons] at ih ⊢; rw [ih]
theorem slr_ints {w : World} {a : Option Addr} {n : Nat} {l : List Nat} (h : SlR w a n (List.flatMap (fun (y : Nat) => [Go.Value.int .i64 (y : Int)]) l)) : SlR w a n (List.flatMap (fun (y : Int) => [Go.Value.int .i64 y]) (ints l)) := by rw [ints_flat]; exact h
theorem ints_inj {l m : List Nat} : ints l = ints m ↔ l = m := by
  constructor
  · intro h
    induction l generalizing m with
    | nil => cases m with
      | nil => rfl
      | cons y m => simp [ints] at h
    | cons x l ih => cases m with
      | nil => simp [ints] at h
      | cons y m =>
        simp only [ints, List.map_cons, List.cons.injEq] at h
        have h1 : x = y := by omega
        rw [h1, ih h.2]
  · rintro rfl; rfl

theorem law20_taken (w : World) :
    Calls Try.prog 24 #[] w (fun r_ w' => r_ = .returned (.bool true) ∧ Fram Non w w') := by
  refine calls_of Try.func24 rfl 47 rfl (by simp) ?_
  have hp0 := Hp.init w
  have he0 : List.map (env0 []) [] = [] := by kernel_rfl
  obtain ⟨b0, he0⟩ := toMk he0
  rw [he0]
  clear he0
  refine WP.seq ?_
  refine WP.pure {} [] [] [] .nil (by kernel_rfl) (fun b1 => ?_)
  refine thn_n ?_
  refine WP.seq ?_
  refine WP.region _ rfl (by kernel_rfl) ?_
  refine OPS.cons (opStep.call (some 8) [.string ⟨#[97]⟩, .int .i64 0, .int .i64 3] (by kernel_rfl) (law_put ⟨#[97]⟩ 0 3 _) ?_)
  rintro _ w6 ⟨g4, c5, rfl, hp8⟩
  refine ⟨_, rfl, ?_⟩
  have hp7 := hp0.made hp8
  refine OPS.cons (opStep.call (some 9) [.string ⟨#[]⟩, .int .i64 1, .int .i64 2] (by kernel_rfl) (law_get ⟨#[]⟩ 1 2 _) ?_)
  rintro _ w13 ⟨g11, c12, rfl, hp15⟩
  refine ⟨_, rfl, ?_⟩
  have hp14 := hp7.made hp15
  refine OPS.cons (opStep.call (some 10) [.string ⟨#[97]⟩, .int .i64 4, .int .i64 5] (by kernel_rfl) (law_get ⟨#[97]⟩ 4 5 _) ?_)
  rintro _ w20 ⟨g18, c19, rfl, hp22⟩
  refine ⟨_, rfl, ?_⟩
  have hp21 := hp14.made hp22
  refine OPS.cons (opStep.buildSlice (E := 41) hp21 [.int .i64 ((putC g4 c5 ⟨#[97]⟩ 0 3).Client), .int .i64 ((putC g4 c5 ⟨#[97]⟩ 0 3).Op), .bool ((putC g4 c5 ⟨#[97]⟩ 0 3).Put), .string ((putC g4 c5 ⟨#[97]⟩ 0 3).Key), .slice ((putC g4 c5 ⟨#[97]⟩ 0 3).Value.a) ((putC g4 c5 ⟨#[97]⟩ 0 3).Value.n) ((putC g4 c5 ⟨#[97]⟩ 0 3).Value.c), .int .i64 ((putC g4 c5 ⟨#[97]⟩ 0 3).Status), .int .i64 ((putC g4 c5 ⟨#[97]⟩ 0 3).From), .int .i64 ((putC g4 c5 ⟨#[97]⟩ 0 3).To), .bool ((putC g4 c5 ⟨#[97]⟩ 0 3).Open), .int .i64 ((putC g4 c5 ⟨#[97]⟩ 0 3).Tag.Count), .int .i64 ((putC g4 c5 ⟨#[97]⟩ 0 3).Tag.Client), .int .i64 ((getC g11 c12 ⟨#[]⟩ 1 2).Client), .int .i64 ((getC g11 c12 ⟨#[]⟩ 1 2).Op), .bool ((getC g11 c12 ⟨#[]⟩ 1 2).Put), .string ((getC g11 c12 ⟨#[]⟩ 1 2).Key), .slice ((getC g11 c12 ⟨#[]⟩ 1 2).Value.a) ((getC g11 c12 ⟨#[]⟩ 1 2).Value.n) ((getC g11 c12 ⟨#[]⟩ 1 2).Value.c), .int .i64 ((getC g11 c12 ⟨#[]⟩ 1 2).Status), .int .i64 ((getC g11 c12 ⟨#[]⟩ 1 2).From), .int .i64 ((getC g11 c12 ⟨#[]⟩ 1 2).To), .bool ((getC g11 c12 ⟨#[]⟩ 1 2).Open), .int .i64 ((getC g11 c12 ⟨#[]⟩ 1 2).Tag.Count), .int .i64 ((getC g11 c12 ⟨#[]⟩ 1 2).Tag.Client), .int .i64 ((getC g18 c19 ⟨#[97]⟩ 4 5).Client), .int .i64 ((getC g18 c19 ⟨#[97]⟩ 4 5).Op), .bool ((getC g18 c19 ⟨#[97]⟩ 4 5).Put), .string ((getC g18 c19 ⟨#[97]⟩ 4 5).Key), .slice ((getC g18 c19 ⟨#[97]⟩ 4 5).Value.a) ((getC g18 c19 ⟨#[97]⟩ 4 5).Value.n) ((getC g18 c19 ⟨#[97]⟩ 4 5).Value.c), .int .i64 ((getC g18 c19 ⟨#[97]⟩ 4 5).Status), .int .i64 ((getC g18 c19 ⟨#[97]⟩ 4 5).From), .int .i64 ((getC g18 c19 ⟨#[97]⟩ 4 5).To), .bool ((getC g18 c19 ⟨#[97]⟩ 4 5).Open), .int .i64 ((getC g18 c19 ⟨#[97]⟩ 4 5).Tag.Count), .int .i64 ((getC g18 c19 ⟨#[97]⟩ 4 5).Tag.Client)] (by kernel_rfl) (fun g25 w23 hp24 => ?_))
  have hvhz32 : ∀ x ∈ ([(putC g4 c5 ⟨#[97]⟩ 0 3), (getC g11 c12 ⟨#[]⟩ 1 2), (getC g18 c19 ⟨#[97]⟩ 4 5)] : List GCall), VB w23 x.Value := by
    intro x hx
    simp only [List.mem_cons, List.not_mem_nil, or_false] at hx
    rcases hx with rfl | rfl | rfl
    · exact (VB.bsr (c := c5) hp24.get3).1
    · exact (VB.bsr (c := c12) hp24.get2).1
    · exact (VB.bsr (c := c19) hp24.get1).1
  have hehz32 : ([(putC g4 c5 ⟨#[97]⟩ 0 3), (getC g11 c12 ⟨#[]⟩ 1 2), (getC g18 c19 ⟨#[97]⟩ 4 5)] : List GCall).map (fun c => valAt w23 c.Value) = ([atV (putC 0 0 ⟨#[97]⟩ 0 3) 0, atV (getC 0 0 ⟨#[]⟩ 1 2) 1, atV (getC 0 0 ⟨#[97]⟩ 4 5) 0] : List GCall).map (fun c => tabV [⟨#[97]⟩, ⟨#[]⟩] c.Value) := by
    have hv0_ : valAt w23 (putC g4 c5 ⟨#[97]⟩ 0 3).Value = ⟨#[97]⟩ := (VB.bsr (c := c5) hp24.get3).2
    have hv1_ : valAt w23 (getC g11 c12 ⟨#[]⟩ 1 2).Value = ⟨#[]⟩ := (VB.bsr (c := c12) hp24.get2).2
    have hv2_ : valAt w23 (getC g18 c19 ⟨#[97]⟩ 4 5).Value = ⟨#[97]⟩ := (VB.bsr (c := c19) hp24.get1).2
    simp only [List.map_cons, List.map_nil, hv0_, hv1_, hv2_]
    rfl
  refine OPS.cons (opStep.call (some 12) [.slice (some ⟨g25, 0, none⟩) 3 3] (by kernel_rfl) (lin_One [(putC g4 c5 ⟨#[97]⟩ 0 3), (getC g11 c12 ⟨#[]⟩ 1 2), (getC g18 c19 ⟨#[97]⟩ 4 5)] (some ⟨g25, 0, none⟩) 3 _ (show SlR w23 (some ⟨g25, 0, none⟩) 3 (List.flatMap GCall.cells [(putC g4 c5 ⟨#[97]⟩ 0 3), (getC g11 c12 ⟨#[]⟩ 1 2), (getC g18 c19 ⟨#[97]⟩ 4 5)]) from SlR.row hp24.get0 rfl) hvhz32 (by simp)) ?_)
  rintro _ w28 ⟨xs33, ok34, e35, ao36, no37, co38, rfl, hx30, hn31⟩
  have hz32 := oneF_of (oneR_iff.1 hx30) (l' := [atV (putC 0 0 ⟨#[97]⟩ 0 3) 0, atV (getC 0 0 ⟨#[]⟩ 1 2) 1, atV (getC 0 0 ⟨#[97]⟩ 4 5) 0]) (by rfl) hehz32
  rw [show oneF (tabV [⟨#[97]⟩, ⟨#[]⟩]) [atV (putC 0 0 ⟨#[97]⟩ 0 3) 0, atV (getC 0 0 ⟨#[]⟩ 1 2) 1, atV (getC 0 0 ⟨#[97]⟩ 4 5) 0] = ([1, 0, 2], true, 0) from by decide +kernel] at hz32
  simp only [Prod.mk.injEq] at hz32
  obtain ⟨rfl, rfl, rfl⟩ := hz32
  refine ⟨_, rfl, ?_⟩
  have hp29 := hp24.made hn31
  have hno39 := own_flat (sz := 1) (fun _ => rfl) (by decide) hp29.get0
  obtain rfl : no37 = 3 := by simpa using hno39.symm
  refine OPS.batch 7 {} [] [1, 2, 3] [.slice ao36 3 co38, .bool true, .int .i64 0] .nil (by kernel_rfl) (fun b40 => ?_)
  refine OPS.nil ?_
  refine thn_n ?_
  refine WP.seq ?_
  refine WP.region _ rfl (by kernel_rfl) ?_
  refine OPS.cons (opStep.call (some 17) [.string ⟨#[97]⟩, .int .i64 0, .int .i64 1] (by kernel_rfl) (law_put ⟨#[97]⟩ 0 1 _) ?_)
  rintro _ w45 ⟨g43, c44, rfl, hp47⟩
  refine ⟨_, rfl, ?_⟩
  have hp46 := hp29.made hp47
  refine OPS.cons (opStep.call (some 18) [.string ⟨#[]⟩, .int .i64 2, .int .i64 3] (by kernel_rfl) (law_get ⟨#[]⟩ 2 3 _) ?_)
  rintro _ w52 ⟨g50, c51, rfl, hp54⟩
  refine ⟨_, rfl, ?_⟩
  have hp53 := hp46.made hp54
  refine OPS.cons (opStep.buildSlice (E := 41) hp53 [.int .i64 ((putC g43 c44 ⟨#[97]⟩ 0 1).Client), .int .i64 ((putC g43 c44 ⟨#[97]⟩ 0 1).Op), .bool ((putC g43 c44 ⟨#[97]⟩ 0 1).Put), .string ((putC g43 c44 ⟨#[97]⟩ 0 1).Key), .slice ((putC g43 c44 ⟨#[97]⟩ 0 1).Value.a) ((putC g43 c44 ⟨#[97]⟩ 0 1).Value.n) ((putC g43 c44 ⟨#[97]⟩ 0 1).Value.c), .int .i64 ((putC g43 c44 ⟨#[97]⟩ 0 1).Status), .int .i64 ((putC g43 c44 ⟨#[97]⟩ 0 1).From), .int .i64 ((putC g43 c44 ⟨#[97]⟩ 0 1).To), .bool ((putC g43 c44 ⟨#[97]⟩ 0 1).Open), .int .i64 ((putC g43 c44 ⟨#[97]⟩ 0 1).Tag.Count), .int .i64 ((putC g43 c44 ⟨#[97]⟩ 0 1).Tag.Client), .int .i64 ((getC g50 c51 ⟨#[]⟩ 2 3).Client), .int .i64 ((getC g50 c51 ⟨#[]⟩ 2 3).Op), .bool ((getC g50 c51 ⟨#[]⟩ 2 3).Put), .string ((getC g50 c51 ⟨#[]⟩ 2 3).Key), .slice ((getC g50 c51 ⟨#[]⟩ 2 3).Value.a) ((getC g50 c51 ⟨#[]⟩ 2 3).Value.n) ((getC g50 c51 ⟨#[]⟩ 2 3).Value.c), .int .i64 ((getC g50 c51 ⟨#[]⟩ 2 3).Status), .int .i64 ((getC g50 c51 ⟨#[]⟩ 2 3).From), .int .i64 ((getC g50 c51 ⟨#[]⟩ 2 3).To), .bool ((getC g50 c51 ⟨#[]⟩ 2 3).Open), .int .i64 ((getC g50 c51 ⟨#[]⟩ 2 3).Tag.Count), .int .i64 ((getC g50 c51 ⟨#[]⟩ 2 3).Tag.Client)] (by kernel_rfl) (fun g57 w55 hp56 => ?_))
  have hvhz64 : ∀ x ∈ ([(putC g43 c44 ⟨#[97]⟩ 0 1), (getC g50 c51 ⟨#[]⟩ 2 3)] : List GCall), VB w55 x.Value := by
    intro x hx
    simp only [List.mem_cons, List.not_mem_nil, or_false] at hx
    rcases hx with rfl | rfl
    · exact (VB.bsr (c := c44) hp56.get2).1
    · exact (VB.bsr (c := c51) hp56.get1).1
  have hehz64 : ([(putC g43 c44 ⟨#[97]⟩ 0 1), (getC g50 c51 ⟨#[]⟩ 2 3)] : List GCall).map (fun c => valAt w55 c.Value) = ([atV (putC 0 0 ⟨#[97]⟩ 0 1) 0, atV (getC 0 0 ⟨#[]⟩ 2 3) 1] : List GCall).map (fun c => tabV [⟨#[97]⟩, ⟨#[]⟩] c.Value) := by
    have hv0_ : valAt w55 (putC g43 c44 ⟨#[97]⟩ 0 1).Value = ⟨#[97]⟩ := (VB.bsr (c := c44) hp56.get2).2
    have hv1_ : valAt w55 (getC g50 c51 ⟨#[]⟩ 2 3).Value = ⟨#[]⟩ := (VB.bsr (c := c51) hp56.get1).2
    simp only [List.map_cons, List.map_nil, hv0_, hv1_]
    rfl
  refine OPS.cons (opStep.call (some 20) [.slice (some ⟨g57, 0, none⟩) 2 2] (by kernel_rfl) (lin_One [(putC g43 c44 ⟨#[97]⟩ 0 1), (getC g50 c51 ⟨#[]⟩ 2 3)] (some ⟨g57, 0, none⟩) 2 _ (show SlR w55 (some ⟨g57, 0, none⟩) 2 (List.flatMap GCall.cells [(putC g43 c44 ⟨#[97]⟩ 0 1), (getC g50 c51 ⟨#[]⟩ 2 3)]) from SlR.row hp56.get0 rfl) hvhz64 (by simp)) ?_)
  rintro _ w60 ⟨xs65, ok66, e67, ao68, no69, co70, rfl, hx62, hn63⟩
  have hz64 := oneF_of (oneR_iff.1 hx62) (l' := [atV (putC 0 0 ⟨#[97]⟩ 0 1) 0, atV (getC 0 0 ⟨#[]⟩ 2 3) 1]) (by rfl) hehz64
  rw [show oneF (tabV [⟨#[97]⟩, ⟨#[]⟩]) [atV (putC 0 0 ⟨#[97]⟩ 0 1) 0, atV (getC 0 0 ⟨#[]⟩ 2 3) 1] = ([], false, 0) from by decide +kernel] at hz64
  simp only [Prod.mk.injEq] at hz64
  obtain ⟨rfl, rfl, rfl⟩ := hz64
  refine ⟨_, rfl, ?_⟩
  have hp61 := hp56.made hn63
  have hno71 := own_flat (sz := 1) (fun _ => rfl) (by decide) hp61.get0
  obtain rfl : no69 = 0 := by simpa using hno71.symm
  refine OPS.batch 7 {} [] [1, 2, 3, 4, 5, 6] [.slice ao36 3 co38, .bool true, .int .i64 0, .slice ao68 0 co70, .bool false, .int .i64 0] .nil (by kernel_rfl) (fun b72 => ?_)
  refine OPS.nil ?_
  refine thn_n ?_
  refine WP.seq ?_
  refine WP.region _ rfl (by kernel_rfl) ?_
  refine OPS.batch 15 { wraps := [29, 32, 36] } [] [4, 37, 38] [.slice ao68 0 co70, .bool true, .slice ao36 3 co38] .nil (by kernel_rfl) (fun b73 => ?_)
  refine OPS.want (by kernel_rfl) ?_
  refine OPS.cons (opStep.buildSlice (E := 3) hp61 [.int .i64 1, .int .i64 0, .int .i64 2] (by kernel_rfl) (fun g76 w74 hp75 => ?_))
  refine OPS.want (by kernel_rfl) ?_
  refine OPS.cons (opStep.call (some 40) [.slice ao36 3 co38, .slice (some ⟨g76, 0, none⟩) 3 3] (by kernel_rfl) (sherdlaw20_sameInts (ints ([1, 0, 2] : List Nat)) [1, 0, 2] ao36 (some ⟨g76, 0, none⟩) 3 3 co38 3 _ ((ints_len _).trans (own_flat (sz := 1) (fun _ => rfl) (by decide) hp75.get5)) (by first | rfl | omega) (by first | decide | (simp only [ints_len]; omega) | omega) (slr_ints (SlR.own hp75.get5)) (show SlR w74 (some ⟨g76, 0, none⟩) 3 (List.flatMap (fun y => [.int .i64 y]) [1, 0, 2]) from SlR.row hp75.get0 rfl)) ?_)
  rintro _ w79 ⟨b82, rfl, hb83, hf80⟩
  refine ⟨_, rfl, ?_⟩
  have hp81 := hp75.step hf80
  obtain rfl : b82 = true := hb83.tt (by decide)
  refine OPS.batch 7 { wraps := [41, 46] } [] [0] [.bool true] .nil (by kernel_rfl) (fun b84 => ?_)
  refine OPS.nil ?_
  refine thn_n ?_
  refine WP.ret ?_
  refine bodyQ.of _ rfl [.bool true] ⟨rfl, trivial⟩ ?_
  exact ⟨rfl, hp81.fr⟩

end Go.Proofs.Ythdkbbpiaeaojaa.K
