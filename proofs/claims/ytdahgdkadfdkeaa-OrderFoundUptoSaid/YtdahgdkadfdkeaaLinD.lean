/- The walks of LinD: what each function computes. -/
import Derived.Test.YtdahgdkadfdkeaaProg
import Derived.Test.YtdahgdkadfdkeaaCoreO
import Derived.Test.YtdahgdkadfdkeaaLinP
namespace Go.Proofs.Ytdahgdkadfdkeaa.K
open Go Go.Proofs Go.RowKit
set_option linter.unusedVariables false
set_option linter.unusedSimpArgs false
set_option maxRecDepth 20000
set_option maxHeartbeats 4000000

theorem lin_down_step (w0 : World) (sb dm : Nat) (l : List GCall) (a : Option Addr) (cp : Nat) (bs : List Int) (ah : List Nat) (need : Nat) (a1 a2 : Option Addr) (n1 c1 n2 c2 : Nat) (hs : SlR w0 a l.length (l.flatMap GCall.cells)) (hv : ∀ x ∈ l, VB w0 x.Value) (hlb : bs.length = l.length) (hla : ah.length = l.length) (hll : l.length ≤ 8796093022207) (hneed : need < 4294967296) (hah : ∀ x ∈ ah, x < 4294967296) (hbs : ∀ x ∈ bs, x < 32) (m : Nat) (ih : ∀ (L : List Res) (n : Nat) (last : Int) (ao : Option Addr) (no co : Nat) (xs : List Nat) (dead : List ((Nat × Int) × Int)) (w : World) (hn : n < 4294967296) (hx : no ≤ n) (hlast : last < l.length) (hdead : ∀ q ∈ dead, Bad (⟨l, valAt w0, bs, ah, need⟩ : Srch) q.1) (hp0 : Hp w0 Non (Res.row sb [.slice a l.length cp, .slice a1 n1 c1, .slice a2 n2 c2, .int .u32 ((need : Nat) : Int), .map (some dm), .slice ao no co] 131 :: Res.own 3 1 (.slice ao no co) no (List.flatMap (fun (y : Nat) => [Go.Value.int .i64 (y : Int)]) xs) :: Res.mp dm kfS (fun y : Int => Go.Value.int .i64 y) dead :: Res.own 3 1 (.slice a2 n2 c2) n2 (List.flatMap (fun (y : Int) => [Go.Value.int .i64 y]) bs) :: Res.own 129 1 (.slice a1 n1 c1) n1 (List.flatMap (fun (y : Nat) => [Go.Value.int .u32 (y : Int)]) ah) :: L) w), 4294967296 < m + n → Calls Try.prog 95 #[.pointer (some ⟨sb, 0, none⟩), .agg #[.int .u32 (n : Int), .int .i64 last]] w (fun x w' => ∃ (b : Bool) (ao' : Option Addr) (no' co' : Nat) (xs' : List Nat) (dead' : List ((Nat × Int) × Int)), x = .returned (.bool b) ∧ downR (⟨l, valAt w0, bs, ah, need⟩ : Srch) (n, last) xs dead' b xs' ∧ Hp w0 Non (Res.row sb [.slice a l.length cp, .slice a1 n1 c1, .slice a2 n2 c2, .int .u32 ((need : Nat) : Int), .map (some dm), .slice ao' no' co'] 131 :: Res.own 3 1 (.slice ao' no' co') no' (List.flatMap (fun (y : Nat) => [Go.Value.int .i64 (y : Int)]) xs') :: Res.mp dm kfS (fun y : Int => Go.Value.int .i64 y) dead' :: Res.own 3 1 (.slice a2 n2 c2) n2 (List.flatMap (fun (y : Int) => [Go.Value.int .i64 y]) bs) :: Res.own 129 1 (.slice a1 n1 c1) n1 (List.flatMap (fun (y : Nat) => [Go.Value.int .u32 (y : Int)]) ah) :: L) w')) (L : List Res) (n : Nat) (last : Int) (ao : Option Addr) (no co : Nat) (xs : List Nat) (dead : List ((Nat × Int) × Int)) (w : World) (hn : n < 4294967296) (hx : no ≤ n) (hlast : last < l.length) (hdead : ∀ q ∈ dead, Bad (⟨l, valAt w0, bs, ah, need⟩ : Srch) q.1) (hp0 : Hp w0 Non (Res.row sb [.slice a l.length cp, .slice a1 n1 c1, .slice a2 n2 c2, .int .u32 ((need : Nat) : Int), .map (some dm), .slice ao no co] 131 :: Res.own 3 1 (.slice ao no co) no (List.flatMap (fun (y : Nat) => [Go.Value.int .i64 (y : Int)]) xs) :: Res.mp dm kfS (fun y : Int => Go.Value.int .i64 y) dead :: Res.own 3 1 (.slice a2 n2 c2) n2 (List.flatMap (fun (y : Int) => [Go.Value.int .i64 y]) bs) :: Res.own 129 1 (.slice a1 n1 c1) n1 (List.flatMap (fun (y : Nat) => [Go.Value.int .u32 (y : Int)]) ah) :: L) w) (hm : 4294967296 ≤ m + n) :
    Calls Try.prog 95 #[.pointer (some ⟨sb, 0, none⟩), .agg #[.int .u32 ((n : Nat) : Int), .int .i64 last]] w (fun x w' => ∃ (b : Bool) (ao' : Option Addr) (no' co' : Nat) (xs' : List Nat) (dead' : List ((Nat × Int) × Int)), x = .returned (.bool b) ∧ downR (⟨l, valAt w0, bs, ah, need⟩ : Srch) (n, last) xs dead' b xs' ∧ Hp w0 Non (Res.row sb [.slice a l.length cp, .slice a1 n1 c1, .slice a2 n2 c2, .int .u32 ((need : Nat) : Int), .map (some dm), .slice ao' no' co'] 131 :: Res.own 3 1 (.slice ao' no' co') no' (List.flatMap (fun (y : Nat) => [Go.Value.int .i64 (y : Int)]) xs') :: Res.mp dm kfS (fun y : Int => Go.Value.int .i64 y) dead' :: Res.own 3 1 (.slice a2 n2 c2) n2 (List.flatMap (fun (y : Int) => [Go.Value.int .i64 y]) bs) :: Res.own 129 1 (.slice a1 n1 c1) n1 (List.flatMap (fun (y : Nat) => [Go.Value.int .u32 (y : Int)]) ah) :: L) w') := by
  refine calls_of Try.func95 rfl 129 rfl (by simp) ?_
  have he0 : List.map (env0 [.pointer (some ⟨sb, 0, none⟩), .agg #[.int .u32 ((n : Nat) : Int), .int .i64 last]]) [0, 1] = [.pointer (some ⟨sb, 0, none⟩), .agg #[.int .u32 ((n : Nat) : Int), .int .i64 last]] := by kernel_rfl
  obtain ⟨b0, he0⟩ := toMk he0
  rw [he0]
  clear he0
  refine WP.seq ?_
  refine WP.region _ rfl (by kernel_rfl) ?_
  refine OPS.cons (opStep.box hp0 [.int .u32 ((n : Nat) : Int), .int .i64 last] (by kernel_rfl) (fun g3 w1 hp2 => ?_))
  refine OPS.batch 1 {} [] [0, 3] [.pointer (some ⟨sb, 0, none⟩), .pointer (some ⟨g3, 0, none⟩)] .nil (by kernel_rfl) (fun b4 => ?_)
  refine OPS.nil ?_
  refine thn_n ?_
  refine WP.seq ?_
  refine WP.seq ?_
  have hp7 := hp2.drew
  refine WP.quiet (fun w5 => Hp w0 Non (Res.row g3 [.int .u32 ((n : Nat) : Int), .int .i64 last] 134 :: Res.row sb [.slice a l.length cp, .slice a1 n1 c1, .slice a2 n2 c2, .int .u32 ((need : Nat) : Int), .map (some dm), .slice ao no co] 131 :: Res.own 3 1 (.slice ao no co) no (List.flatMap (fun (y : Nat) => [Go.Value.int .i64 (y : Int)]) xs) :: Res.mp dm kfS (fun y : Int => Go.Value.int .i64 y) dead :: Res.own 3 1 (.slice a2 n2 c2) n2 (List.flatMap (fun (y : Int) => [Go.Value.int .i64 y]) bs) :: Res.own 129 1 (.slice a1 n1 c1) n1 (List.flatMap (fun (y : Nat) => [Go.Value.int .u32 (y : Int)]) ah) :: L) w5) (by kernel_rfl) hp7 ?_
  have hnehp7 : ∃ wz_, (fun w5 => Hp w0 Non (Res.row g3 [.int .u32 ((n : Nat) : Int), .int .i64 last] 134 :: Res.row sb [.slice a l.length cp, .slice a1 n1 c1, .slice a2 n2 c2, .int .u32 ((need : Nat) : Int), .map (some dm), .slice ao no co] 131 :: Res.own 3 1 (.slice ao no co) no (List.flatMap (fun (y : Nat) => [Go.Value.int .i64 (y : Int)]) xs) :: Res.mp dm kfS (fun y : Int => Go.Value.int .i64 y) dead :: Res.own 3 1 (.slice a2 n2 c2) n2 (List.flatMap (fun (y : Int) => [Go.Value.int .i64 y]) bs) :: Res.own 129 1 (.slice a1 n1 c1) n1 (List.flatMap (fun (y : Nat) => [Go.Value.int .u32 (y : Int)]) ah) :: L) w5) wz_ := ⟨_, hp7⟩
  refine QOPS.batch 12 { subs := [17] } [.int .u32 ((n : Nat) : Int), .int .u32 ((need : Nat) : Int), .int .u32 ((n &&& need : Nat) : Int), .int .u32 ((need : Nat) : Int)] [0, 3, 22] [.pointer (some ⟨sb, 0, none⟩), .pointer (some ⟨g3, 0, none⟩), .bool (decide (((n &&& need : Nat) : Int) = ((need : Nat) : Int)))] hnehp7 (fun w8 hp9 => QB.mk (.cons (Ld.row1 (P := Try.prog) (t := 129) (o := 0) (v := .int .u32 ((n : Nat) : Int)) hp9.get0 (by kernel_rfl)) (.cons (Ld.row1 (P := Try.prog) (t := 129) (o := 3) (v := .int .u32 ((need : Nat) : Int)) hp9.get1 (by kernel_rfl)) (.cons (show (.int .u32 (IntKind.u32.wrap (BitVec.ofInt IntKind.u32.bits ((n : Nat) : Int) &&& BitVec.ofInt IntKind.u32.bits ((need : Nat) : Int)).toNat) : Go.Value) = .int .u32 ((n &&& need : Nat) : Int) from congrArg (Value.int .u32) (u32_and (a := n) (b := need) hn hneed)) (.cons (Ld.row1 (P := Try.prog) (t := 129) (o := 3) (v := .int .u32 ((need : Nat) : Int)) hp9.get1 (by kernel_rfl)) .nil)))) (by kernel_rfl)) (fun b10 => ?_)
  refine QOPS.nil (fun w11 hp12 => ?_)
  refine thn_n ?_
  refine WP.test (p := ((n &&& need : Nat) : Int) = ((need : Nat) : Int)) rfl Bp.dec (fun h13 => ?_) (fun h13 => ?_)
  · refine WP.seq ?_
    refine WP.pure {} [] [4] [.bool true] .nil (by kernel_rfl) (fun b14 => ?_)
    refine thn_n ?_
    refine WP.ret ?_
    refine thn_r ?_
    refine bodyQ.of _ rfl [.bool true] ⟨rfl, trivial⟩ ?_
    exact ⟨true, ao, no, co, xs, dead, rfl, ⟨fun _ => ⟨[], best_done (show n &&& need = need from by omega), (List.append_nil _).symm⟩, fun h => absurd h (by decide), hdead⟩, (hp12.sub (.cons _ (.cons_cons _ (.cons_cons _ (.cons_cons _ (.cons_cons _ (.cons_cons _ (.refl _))))))))⟩
  · refine WP.skip ?_
    refine thn_n ?_
    refine WP.seq ?_
    refine WP.seq ?_
    have hp17 := hp12.drew
    refine WP.quiet (fun w15 => Hp w0 Non (Res.row g3 [.int .u32 ((n : Nat) : Int), .int .i64 last] 134 :: Res.row sb [.slice a l.length cp, .slice a1 n1 c1, .slice a2 n2 c2, .int .u32 ((need : Nat) : Int), .map (some dm), .slice ao no co] 131 :: Res.own 3 1 (.slice ao no co) no (List.flatMap (fun (y : Nat) => [Go.Value.int .i64 (y : Int)]) xs) :: Res.mp dm kfS (fun y : Int => Go.Value.int .i64 y) dead :: Res.own 3 1 (.slice a2 n2 c2) n2 (List.flatMap (fun (y : Int) => [Go.Value.int .i64 y]) bs) :: Res.own 129 1 (.slice a1 n1 c1) n1 (List.flatMap (fun (y : Nat) => [Go.Value.int .u32 (y : Int)]) ah) :: L) w15) (by kernel_rfl) hp17 ?_
    have hnehp17 : ∃ wz_, (fun w15 => Hp w0 Non (Res.row g3 [.int .u32 ((n : Nat) : Int), .int .i64 last] 134 :: Res.row sb [.slice a l.length cp, .slice a1 n1 c1, .slice a2 n2 c2, .int .u32 ((need : Nat) : Int), .map (some dm), .slice ao no co] 131 :: Res.own 3 1 (.slice ao no co) no (List.flatMap (fun (y : Nat) => [Go.Value.int .i64 (y : Int)]) xs) :: Res.mp dm kfS (fun y : Int => Go.Value.int .i64 y) dead :: Res.own 3 1 (.slice a2 n2 c2) n2 (List.flatMap (fun (y : Int) => [Go.Value.int .i64 y]) bs) :: Res.own 129 1 (.slice a1 n1 c1) n1 (List.flatMap (fun (y : Nat) => [Go.Value.int .u32 (y : Int)]) ah) :: L) w15) wz_ := ⟨_, hp17⟩
    refine QOPS.batch 11 {} [.map (some dm), .agg #[.int .u32 ((n : Nat) : Int), .int .i64 last], .tuple #[.int .i64 ((mapV dead (n, last)).getD 0), .bool ((mapV dead (n, last)).isSome)]] [0, 3, 6] [.pointer (some ⟨sb, 0, none⟩), .pointer (some ⟨g3, 0, none⟩), .bool ((mapV dead (n, last)).isSome)] hnehp17 (fun w18 hp19 => QB.mk (.cons (Ld.row1 (P := Try.prog) (t := 127) (o := 4) (v := .map (some dm)) hp19.get1 (by kernel_rfl)) (.cons (show Ld Try.prog w18 134 ⟨g3, 0, none⟩ (.agg #[.int .u32 ((n : Nat) : Int), .int .i64 last]) from Ld.rowN (cs := [.int .u32 ((n : Nat) : Int), .int .i64 last]) hp19.get0 (by kernel_rfl)) (.cons (Lk.okI keyState (by exact Try.underlying127) hp19.get3 (n, last) (by kernel_rfl)) .nil))) (by kernel_rfl)) (fun b20 => ?_)
    refine QOPS.nil (fun w21 hp22 => ?_)
    refine thn_n ?_
    refine WP.seq ?_
    refine WP.pure {} [] [0, 3, 32] [.pointer (some ⟨sb, 0, none⟩), .pointer (some ⟨g3, 0, none⟩), .bool ((mapV dead (n, last)).isSome)] .nil (by kernel_rfl) (fun b23 => ?_)
    refine thn_n ?_
    refine WP.test (p := ((mapV dead (n, last)).isSome) = true) rfl Bp.var (fun h24 => ?_) (fun h24 => ?_)
    · refine WP.seq ?_
      refine WP.pure {} [] [4] [.bool false] .nil (by kernel_rfl) (fun b25 => ?_)
      refine thn_n ?_
      refine WP.ret ?_
      refine thn_r ?_
      refine bodyQ.of _ rfl [.bool false] ⟨rfl, trivial⟩ ?_
      have hnd : ¬ Srch.done (⟨l, valAt w0, bs, ah, need⟩ : Srch) (n, last) := fun hh => h13 (by have : n &&& need = need := hh; omega)
      exact ⟨false, ao, no, co, xs, dead, rfl, ⟨fun h => absurd h (by decide), fun _ => ⟨rfl, by obtain ⟨v, hv⟩ := Option.isSome_iff_exists.1 h24; exact hdead _ (mapV_mem hv)⟩, hdead⟩, (hp22.sub (.cons _ (.cons_cons _ (.cons_cons _ (.cons_cons _ (.cons_cons _ (.cons_cons _ (.refl _))))))))⟩
    · refine WP.skip ?_
      refine thn_n ?_
      refine WP.seq ?_
      refine WP.seq ?_
      refine WP.pure {} [.slice a l.length cp] [0, 3, 36, 37, 38] [.pointer (some ⟨sb, 0, none⟩), .pointer (some ⟨g3, 0, none⟩), .slice a l.length cp, .int .i64 ((l.length : Nat) : Int), .int .i64 0] (.cons (Ld.row1 (P := Try.prog) (t := 55) (o := 0) (v := .slice a l.length cp) hp22.get1 (by kernel_rfl)) .nil) (by kernel_rfl) (fun b26 => ?_)
      refine thn_n ?_
      refine WP.block ?_
      refine WP.loop (fun mz_ e27 w28 => ∃ (k : Nat) (ao1 : Option Addr) (no1 : Nat) (co1 : Nat) (dead1 : List ((Nat × Int) × Int)), mz_ = l.length - k ∧ (k ≤ l.length ∧ no1 ≤ n ∧ (∀ q ∈ dead1, Bad (⟨l, valAt w0, bs, ah, need⟩ : Srch) q.1) ∧ (∀ j, j < k → ∀ q, ¬ Path (⟨l, valAt w0, bs, ah, need⟩ : Srch) (n, last) (j :: q))) ∧ List.map e27 [0, 3, 36, 37, 38] = [.pointer (some ⟨sb, 0, none⟩), .pointer (some ⟨g3, 0, none⟩), .slice a l.length cp, .int .i64 ((l.length : Nat) : Int), .int .i64 (k : Int)] ∧ Hp w0 Non (Res.row g3 [.int .u32 ((n : Nat) : Int), .int .i64 last] 134 :: Res.row sb [.slice a l.length cp, .slice a1 n1 c1, .slice a2 n2 c2, .int .u32 ((need : Nat) : Int), .map (some dm), .slice ao1 no1 co1] 131 :: Res.own 3 1 (.slice ao1 no1 co1) no1 (List.flatMap (fun (y : Nat) => [Go.Value.int .i64 (y : Int)]) xs) :: Res.mp dm kfS (fun y : Int => Go.Value.int .i64 y) dead1 :: Res.own 3 1 (.slice a2 n2 c2) n2 (List.flatMap (fun (y : Int) => [Go.Value.int .i64 y]) bs) :: Res.own 129 1 (.slice a1 n1 c1) n1 (List.flatMap (fun (y : Nat) => [Go.Value.int .u32 (y : Int)]) ah) :: L) w28) (l.length - (0)) ⟨0, ao, no, co, dead, rfl, ⟨by omega, by omega, hdead, fun j hj => by omega⟩, by kernel_rfl, hp22⟩ ?_
      rintro _ e27 w28 ⟨k, ao1, no1, co1, dead1, rfl, hI30, hE31, hp29⟩
      obtain ⟨b32, rfl⟩ := toMk hE31
      clear hE31
      obtain ⟨h1, h2, hdd, hnone⟩ := hI30
      refine WP.seq ?_
      refine WP.pure {} [] [0, 3, 36, 37, 38, 39] [.pointer (some ⟨sb, 0, none⟩), .pointer (some ⟨g3, 0, none⟩), .slice a l.length cp, .int .i64 ((l.length : Nat) : Int), .int .i64 (k : Int), .bool (decide ((k : Int) < ((l.length : Nat) : Int)))] .nil (by kernel_rfl) (fun b33 => ?_)
      refine thn_n ?_
      refine WP.seq ?_
      refine WP.test (p := (k : Int) < ((l.length : Nat) : Int)) rfl Bp.dec (fun h34 => ?_) (fun h34 => ?_)
      · refine WP.skip ?_
        refine thn_n ?_
        refine WP.seq ?_
        refine WP.block ?_
        refine WP.seq ?_
        refine WP.region _ rfl (by kernel_rfl) ?_
        have hy38 : (l)[k]? = some l[k]! := get_bang (by first | (omega) | (simp only [List.length_append, List.length_cons, List.length_nil]; omega) | (simp only [List.length_take, List.length_append, List.length_cons, List.length_nil]; omega))
        refine OPS.batch 3 {} [GCall.val (l[k]!)] [0, 3, 36, 37, 38, 40, 42] [.pointer (some ⟨sb, 0, none⟩), .pointer (some ⟨g3, 0, none⟩), .slice a l.length cp, .int .i64 ((l.length : Nat) : Int), .int .i64 (k : Int), .int .i64 (k : Int), GCall.val (l[k]!)] (.cons (show InB ((k : Int)) (l.length) from ⟨by omega, by omega⟩) (.cons ((hs.at hp29).some (by omega)) (.cons (Ld.add0 (Ld.elN (P := Try.prog) (t := 73) (hs.at hp29).rd 11 (fun _ => rfl) hy38 (o := 0) (cs := [.int .i64 (l[k]!.Client), .int .i64 (l[k]!.Op), .bool (l[k]!.Put), .string (l[k]!.Key), .slice (l[k]!.Value.a) (l[k]!.Value.n) (l[k]!.Value.c), .int .i64 (l[k]!.Status), .int .i64 (l[k]!.From), .int .i64 (l[k]!.To), .bool (l[k]!.Open), .int .i64 (l[k]!.Tag.Count), .int .i64 (l[k]!.Tag.Client)]) (by kernel_rfl))) .nil))) (by kernel_rfl) (fun b39 => ?_)
        refine OPS.cons (opStep.alloc hp29 [.int .i64 0, .int .i64 0, .bool false, .string ByteArray.empty, .slice none 0 0, .int .i64 0, .int .i64 0, .int .i64 0, .bool false, .int .i64 0, .int .i64 0] (by kernel_rfl) (fun g42 w40 hp41 => ?_))
        refine OPS.batch 1 {} [] [0, 3, 7, 8, 36, 37, 38, 42] [.pointer (some ⟨sb, 0, none⟩), .pointer (some ⟨g3, 0, none⟩), .int .i64 (k : Int), .pointer (some ⟨g42, 0, none⟩), .slice a l.length cp, .int .i64 ((l.length : Nat) : Int), .int .i64 (k : Int), GCall.val (l[k]!)] .nil (by kernel_rfl) (fun b43 => ?_)
        refine OPS.cons (opStep.store0 hp41 rfl [.int .i64 (l[k]!.Client), .int .i64 (l[k]!.Op), .bool (l[k]!.Put), .string (l[k]!.Key), .slice (l[k]!.Value.a) (l[k]!.Value.n) (l[k]!.Value.c), .int .i64 (l[k]!.Status), .int .i64 (l[k]!.From), .int .i64 (l[k]!.To), .bool (l[k]!.Open), .int .i64 (l[k]!.Tag.Count), .int .i64 (l[k]!.Tag.Client)] [.int .i64 (l[k]!.Client), .int .i64 (l[k]!.Op), .bool (l[k]!.Put), .string (l[k]!.Key), .slice (l[k]!.Value.a) (l[k]!.Value.n) (l[k]!.Value.c), .int .i64 (l[k]!.Status), .int .i64 (l[k]!.From), .int .i64 (l[k]!.To), .bool (l[k]!.Open), .int .i64 (l[k]!.Tag.Count), .int .i64 (l[k]!.Tag.Client)] (by kernel_rfl) (fun w44 hp45 => ?_))
        refine OPS.nil ?_
        refine thn_n ?_
        refine WP.seq ?_
        have := own_flat (sz := 1) (fun _ => rfl) (by decide) hp45.get5
        have hy47 : (bs)[k]? = some bs[k]! := get_bang (by first | (omega) | (simp only [List.length_append, List.length_cons, List.length_nil]; omega) | (simp only [List.length_take, List.length_append, List.length_cons, List.length_nil]; omega))
        have hbhy47 := hbs bs[k]! (List.mem_of_getElem? hy47)
        refine WP.pure {} [.slice a2 n2 c2, .int .i64 (bs[k]!)] [0, 3, 7, 8, 9, 36, 37, 38] [.pointer (some ⟨sb, 0, none⟩), .pointer (some ⟨g3, 0, none⟩), .int .i64 (k : Int), .pointer (some ⟨g42, 0, none⟩), .int .i64 (bs[k]!), .slice a l.length cp, .int .i64 ((l.length : Nat) : Int), .int .i64 (k : Int)] (.cons (Ld.row1 (P := Try.prog) (t := 24) (o := 2) (v := .slice a2 n2 c2) hp45.get2 (by kernel_rfl)) (.cons (show InB ((k : Int)) (n2) from ⟨by omega, by omega⟩) (.cons ((SlR.own (hp45.get5)).some (by omega)) (.cons (Ld.add0 (Ld.el1 (P := Try.prog) (t := 3) (SlR.own (hp45.get5)).rd 1 (fun _ => rfl) hy47 (o := 0) (v := .int .i64 (bs[k]!)) (by kernel_rfl))) .nil)))) (by kernel_rfl) (fun b48 => ?_)
        refine thn_n ?_
        refine WP.seq ?_
        refine WP.cut (fun e84 w85 => ∃ (x82 : Bool), (True) ∧ Bp x82 ((((bs[k]!) < 0)) ∨ ((¬ ((bs[k]!) < 0)) ∧ ((((n >>> (bs[k]!).toNat) &&& 1 : Nat) : Int) = 1)) ∨ ((¬ ((bs[k]!) < 0)) ∧ (¬ ((((n >>> (bs[k]!).toNat) &&& 1 : Nat) : Int) = 1)) ∧ (¬ (((lack (ah[k]!) n : Nat) : Int) = 0)))) ∧ List.map e84 [0, 3, 7, 8, 9, 36, 37, 38, 72] = [.pointer (some ⟨sb, 0, none⟩), .pointer (some ⟨g3, 0, none⟩), .int .i64 (k : Int), .pointer (some ⟨g42, 0, none⟩), .int .i64 (bs[k]!), .slice a l.length cp, .int .i64 ((l.length : Nat) : Int), .int .i64 (k : Int), .bool x82] ∧ Hp w0 Non (Res.row g42 [.int .i64 (l[k]!.Client), .int .i64 (l[k]!.Op), .bool (l[k]!.Put), .string (l[k]!.Key), .slice (l[k]!.Value.a) (l[k]!.Value.n) (l[k]!.Value.c), .int .i64 (l[k]!.Status), .int .i64 (l[k]!.From), .int .i64 (l[k]!.To), .bool (l[k]!.Open), .int .i64 (l[k]!.Tag.Count), .int .i64 (l[k]!.Tag.Client)] 73 :: Res.row g3 [.int .u32 ((n : Nat) : Int), .int .i64 last] 134 :: Res.row sb [.slice a l.length cp, .slice a1 n1 c1, .slice a2 n2 c2, .int .u32 ((need : Nat) : Int), .map (some dm), .slice ao1 no1 co1] 131 :: Res.own 3 1 (.slice ao1 no1 co1) no1 (List.flatMap (fun (y : Nat) => [Go.Value.int .i64 (y : Int)]) xs) :: Res.mp dm kfS (fun y : Int => Go.Value.int .i64 y) dead1 :: Res.own 3 1 (.slice a2 n2 c2) n2 (List.flatMap (fun (y : Int) => [Go.Value.int .i64 y]) bs) :: Res.own 129 1 (.slice a1 n1 c1) n1 (List.flatMap (fun (y : Nat) => [Go.Value.int .u32 (y : Int)]) ah) :: L) w85) ?_ ?_
        · have hp52 := hp45.drew
          refine WP.quiet (fun w50 => Hp w0 Non (Res.row g42 [.int .i64 (l[k]!.Client), .int .i64 (l[k]!.Op), .bool (l[k]!.Put), .string (l[k]!.Key), .slice (l[k]!.Value.a) (l[k]!.Value.n) (l[k]!.Value.c), .int .i64 (l[k]!.Status), .int .i64 (l[k]!.From), .int .i64 (l[k]!.To), .bool (l[k]!.Open), .int .i64 (l[k]!.Tag.Count), .int .i64 (l[k]!.Tag.Client)] 73 :: Res.row g3 [.int .u32 ((n : Nat) : Int), .int .i64 last] 134 :: Res.row sb [.slice a l.length cp, .slice a1 n1 c1, .slice a2 n2 c2, .int .u32 ((need : Nat) : Int), .map (some dm), .slice ao1 no1 co1] 131 :: Res.own 3 1 (.slice ao1 no1 co1) no1 (List.flatMap (fun (y : Nat) => [Go.Value.int .i64 (y : Int)]) xs) :: Res.mp dm kfS (fun y : Int => Go.Value.int .i64 y) dead1 :: Res.own 3 1 (.slice a2 n2 c2) n2 (List.flatMap (fun (y : Int) => [Go.Value.int .i64 y]) bs) :: Res.own 129 1 (.slice a1 n1 c1) n1 (List.flatMap (fun (y : Nat) => [Go.Value.int .u32 (y : Int)]) ah) :: L) w50) (by kernel_rfl) hp52 ?_
          have hnehp52 : ∃ wz_, (fun w50 => Hp w0 Non (Res.row g42 [.int .i64 (l[k]!.Client), .int .i64 (l[k]!.Op), .bool (l[k]!.Put), .string (l[k]!.Key), .slice (l[k]!.Value.a) (l[k]!.Value.n) (l[k]!.Value.c), .int .i64 (l[k]!.Status), .int .i64 (l[k]!.From), .int .i64 (l[k]!.To), .bool (l[k]!.Open), .int .i64 (l[k]!.Tag.Count), .int .i64 (l[k]!.Tag.Client)] 73 :: Res.row g3 [.int .u32 ((n : Nat) : Int), .int .i64 last] 134 :: Res.row sb [.slice a l.length cp, .slice a1 n1 c1, .slice a2 n2 c2, .int .u32 ((need : Nat) : Int), .map (some dm), .slice ao1 no1 co1] 131 :: Res.own 3 1 (.slice ao1 no1 co1) no1 (List.flatMap (fun (y : Nat) => [Go.Value.int .i64 (y : Int)]) xs) :: Res.mp dm kfS (fun y : Int => Go.Value.int .i64 y) dead1 :: Res.own 3 1 (.slice a2 n2 c2) n2 (List.flatMap (fun (y : Int) => [Go.Value.int .i64 y]) bs) :: Res.own 129 1 (.slice a1 n1 c1) n1 (List.flatMap (fun (y : Nat) => [Go.Value.int .u32 (y : Int)]) ah) :: L) w50) wz_ := ⟨_, hp52⟩
          refine QOPS.batch 3 {} [] [0, 3, 7, 8, 9, 36, 37, 38, 52] [.pointer (some ⟨sb, 0, none⟩), .pointer (some ⟨g3, 0, none⟩), .int .i64 (k : Int), .pointer (some ⟨g42, 0, none⟩), .int .i64 (bs[k]!), .slice a l.length cp, .int .i64 ((l.length : Nat) : Int), .int .i64 (k : Int), .bool (decide ((bs[k]!) < 0))] hnehp52 (fun w53 hp54 => QB.mk .nil (by kernel_rfl)) (fun b55 => ?_)
          by_cases h56 : (bs[k]!) < 0
          · refine QOPS.batch 0 {} [] [0, 3, 7, 8, 9, 36, 37, 38, 52] [.pointer (some ⟨sb, 0, none⟩), .pointer (some ⟨g3, 0, none⟩), .int .i64 (k : Int), .pointer (some ⟨g42, 0, none⟩), .int .i64 (bs[k]!), .slice a l.length cp, .int .i64 ((l.length : Nat) : Int), .int .i64 (k : Int), .bool (decide ((bs[k]!) < 0))] hnehp52 (fun _ _ => QB.mk .nil (by kernel_rfl)) (fun b57 => ?_)
            refine QOPS.re [.pointer (some ⟨sb, 0, none⟩), .pointer (some ⟨g3, 0, none⟩), .int .i64 (k : Int), .pointer (some ⟨g42, 0, none⟩), .int .i64 (bs[k]!), .slice a l.length cp, .int .i64 ((l.length : Nat) : Int), .int .i64 (k : Int), .bool true] (by rw [show (decide ((bs[k]!) < 0)) = true from Bp.dec.tt h56]) ?_
            refine QOPS.batch 20 { wraps := [59, 72] } [] [0, 3, 7, 8, 9, 36, 37, 38, 72] [.pointer (some ⟨sb, 0, none⟩), .pointer (some ⟨g3, 0, none⟩), .int .i64 (k : Int), .pointer (some ⟨g42, 0, none⟩), .int .i64 (bs[k]!), .slice a l.length cp, .int .i64 ((l.length : Nat) : Int), .int .i64 (k : Int), .bool true] hnehp52 (fun w58 hp59 => QB.mk .nil (by kernel_rfl)) (fun b60 => ?_)
            refine QOPS.nil (fun w61 hp62 => ?_)
            refine thn_n ?_
            exact ⟨true, trivial, Bp.of Bp.t (by first | (simp only [h56, iff_false, false_iff, iff_true, true_iff, Classical.not_not, and_true, true_and, and_false, false_and, or_true, true_or, or_false, false_or, not_true_eq_false, not_false_eq_true, and_self, or_self, iff_self]; done) | (simp [h56]; done) | grind | (simp_all; done)), by kernel_rfl, hp62⟩
          · refine QOPS.batch 0 {} [] [0, 3, 7, 8, 9, 36, 37, 38, 52] [.pointer (some ⟨sb, 0, none⟩), .pointer (some ⟨g3, 0, none⟩), .int .i64 (k : Int), .pointer (some ⟨g42, 0, none⟩), .int .i64 (bs[k]!), .slice a l.length cp, .int .i64 ((l.length : Nat) : Int), .int .i64 (k : Int), .bool (decide ((bs[k]!) < 0))] hnehp52 (fun _ _ => QB.mk .nil (by kernel_rfl)) (fun b63 => ?_)
            refine QOPS.re [.pointer (some ⟨sb, 0, none⟩), .pointer (some ⟨g3, 0, none⟩), .int .i64 (k : Int), .pointer (some ⟨g42, 0, none⟩), .int .i64 (bs[k]!), .slice a l.length cp, .int .i64 ((l.length : Nat) : Int), .int .i64 (k : Int), .bool false] (by rw [show (decide ((bs[k]!) < 0)) = false from Bp.dec.ff h56]) ?_
            refine QOPS.batch 8 { wraps := [59], subs := [56, 57] } [.int .u32 ((n : Nat) : Int), .int .u32 ((n >>> (bs[k]!).toNat : Nat) : Int), .int .u32 (((n >>> (bs[k]!).toNat) &&& 1 : Nat) : Int)] [0, 3, 7, 8, 9, 36, 37, 38, 60] [.pointer (some ⟨sb, 0, none⟩), .pointer (some ⟨g3, 0, none⟩), .int .i64 (k : Int), .pointer (some ⟨g42, 0, none⟩), .int .i64 (bs[k]!), .slice a l.length cp, .int .i64 ((l.length : Nat) : Int), .int .i64 (k : Int), .bool (decide ((((n >>> (bs[k]!).toNat) &&& 1 : Nat) : Int) = 1))] hnehp52 (fun w64 hp65 => QB.mk (.cons (Ld.row1 (P := Try.prog) (t := 129) (o := 0) (v := .int .u32 ((n : Nat) : Int)) hp65.get1 (by kernel_rfl)) (.cons (show (0 : Int) ≤ (bs[k]!) from by omega) (.cons (show (.int .u32 (((n : Nat) : Int).fdiv (2 ^ (min (bs[k]! : Int).toNat IntKind.u32.bits))) : Go.Value) = .int .u32 ((n >>> (bs[k]!).toNat : Nat) : Int) from congrArg (Value.int .u32) (u_shr (a := n) (y := bs[k]!) (m := IntKind.u32.bits) (show bs[k]! ≤ (32 : Int) by omega))) (.cons (show (.int .u32 (IntKind.u32.wrap (BitVec.ofInt IntKind.u32.bits ((n >>> (bs[k]!).toNat : Nat) : Int) &&& BitVec.ofInt IntKind.u32.bits 1).toNat) : Go.Value) = .int .u32 (((n >>> (bs[k]!).toNat) &&& 1 : Nat) : Int) from congrArg (Value.int .u32) (u32_and (a := n >>> (bs[k]!).toNat) (b := 1) (shr_lt hn) (by decide))) .nil)))) (by kernel_rfl)) (fun b66 => ?_)
            by_cases h67 : (((n >>> (bs[k]!).toNat) &&& 1 : Nat) : Int) = 1
            · refine QOPS.batch 0 {} [] [0, 3, 7, 8, 9, 36, 37, 38, 60] [.pointer (some ⟨sb, 0, none⟩), .pointer (some ⟨g3, 0, none⟩), .int .i64 (k : Int), .pointer (some ⟨g42, 0, none⟩), .int .i64 (bs[k]!), .slice a l.length cp, .int .i64 ((l.length : Nat) : Int), .int .i64 (k : Int), .bool (decide ((((n >>> (bs[k]!).toNat) &&& 1 : Nat) : Int) = 1))] hnehp52 (fun _ _ => QB.mk .nil (by kernel_rfl)) (fun b68 => ?_)
              refine QOPS.re [.pointer (some ⟨sb, 0, none⟩), .pointer (some ⟨g3, 0, none⟩), .int .i64 (k : Int), .pointer (some ⟨g42, 0, none⟩), .int .i64 (bs[k]!), .slice a l.length cp, .int .i64 ((l.length : Nat) : Int), .int .i64 (k : Int), .bool true] (by rw [show (decide ((((n >>> (bs[k]!).toNat) &&& 1 : Nat) : Int) = 1)) = true from Bp.dec.tt h67]) ?_
              refine QOPS.batch 12 { wraps := [72] } [] [0, 3, 7, 8, 9, 36, 37, 38, 72] [.pointer (some ⟨sb, 0, none⟩), .pointer (some ⟨g3, 0, none⟩), .int .i64 (k : Int), .pointer (some ⟨g42, 0, none⟩), .int .i64 (bs[k]!), .slice a l.length cp, .int .i64 ((l.length : Nat) : Int), .int .i64 (k : Int), .bool true] hnehp52 (fun w69 hp70 => QB.mk .nil (by kernel_rfl)) (fun b71 => ?_)
              refine QOPS.nil (fun w72 hp73 => ?_)
              refine thn_n ?_
              exact ⟨true, trivial, Bp.of Bp.t (by first | (simp only [h56, h67, iff_false, false_iff, iff_true, true_iff, Classical.not_not, and_true, true_and, and_false, false_and, or_true, true_or, or_false, false_or, not_true_eq_false, not_false_eq_true, and_self, or_self, iff_self]; done) | (simp [h56, h67]; done) | grind | (simp_all; done)), by kernel_rfl, hp73⟩
            · refine QOPS.batch 0 {} [] [0, 3, 7, 8, 9, 36, 37, 38, 60] [.pointer (some ⟨sb, 0, none⟩), .pointer (some ⟨g3, 0, none⟩), .int .i64 (k : Int), .pointer (some ⟨g42, 0, none⟩), .int .i64 (bs[k]!), .slice a l.length cp, .int .i64 ((l.length : Nat) : Int), .int .i64 (k : Int), .bool (decide ((((n >>> (bs[k]!).toNat) &&& 1 : Nat) : Int) = 1))] hnehp52 (fun _ _ => QB.mk .nil (by kernel_rfl)) (fun b74 => ?_)
              refine QOPS.re [.pointer (some ⟨sb, 0, none⟩), .pointer (some ⟨g3, 0, none⟩), .int .i64 (k : Int), .pointer (some ⟨g42, 0, none⟩), .int .i64 (bs[k]!), .slice a l.length cp, .int .i64 ((l.length : Nat) : Int), .int .i64 (k : Int), .bool false] (by rw [show (decide ((((n >>> (bs[k]!).toNat) &&& 1 : Nat) : Int) = 1)) = false from Bp.dec.ff h67]) ?_
              have := own_flat (sz := 1) (fun _ => rfl) (by decide) hp52.get6
              have hy78 : (ah)[k]? = some ah[k]! := get_bang (by first | (omega) | (simp only [List.length_append, List.length_cons, List.length_nil]; omega) | (simp only [List.length_take, List.length_append, List.length_cons, List.length_nil]; omega))
              refine QOPS.batch 12 { wraps := [72], subs := [70] } [.slice a1 n1 c1, .int .u32 ((ah[k]! : Nat) : Int), .int .u32 ((n : Nat) : Int), .int .u32 ((lack (ah[k]!) n : Nat) : Int)] [0, 3, 7, 8, 9, 36, 37, 38, 72] [.pointer (some ⟨sb, 0, none⟩), .pointer (some ⟨g3, 0, none⟩), .int .i64 (k : Int), .pointer (some ⟨g42, 0, none⟩), .int .i64 (bs[k]!), .slice a l.length cp, .int .i64 ((l.length : Nat) : Int), .int .i64 (k : Int), .bool (decide (¬ (((lack (ah[k]!) n : Nat) : Int) = 0)))] hnehp52 (fun w75 hp76 => QB.mk (.cons (Ld.row1 (P := Try.prog) (t := 128) (o := 1) (v := .slice a1 n1 c1) hp76.get2 (by kernel_rfl)) (.cons (show InB ((k : Int)) (n1) from ⟨by omega, by omega⟩) (.cons ((SlR.own (hp76.get6)).some (by omega)) (.cons (Ld.add0 (Ld.el1 (P := Try.prog) (t := 129) (SlR.own (hp76.get6)).rd 1 (fun _ => rfl) hy78 (o := 0) (v := .int .u32 ((ah[k]! : Nat) : Int)) (by kernel_rfl))) (.cons (Ld.row1 (P := Try.prog) (t := 129) (o := 0) (v := .int .u32 ((n : Nat) : Int)) hp76.get1 (by kernel_rfl)) (.cons (show (.int .u32 (IntKind.u32.wrap (BitVec.ofInt IntKind.u32.bits ((ah[k]! : Nat) : Int) &&& ~~~ BitVec.ofInt IntKind.u32.bits ((n : Nat) : Int)).toNat) : Go.Value) = .int .u32 ((lack (ah[k]!) n : Nat) : Int) from congrArg (Value.int .u32) (u32_andNot (a := ah[k]!) (b := n) (hah ah[k]! (List.mem_of_getElem? hy78)))) .nil)))))) (by kernel_rfl)) (fun b79 => ?_)
              refine QOPS.nil (fun w80 hp81 => ?_)
              refine thn_n ?_
              exact ⟨decide (¬ (((lack (ah[k]!) n : Nat) : Int) = 0)), trivial, Bp.of Bp.dec (by first | (simp only [h56, h67, iff_false, false_iff, iff_true, true_iff, Classical.not_not, and_true, true_and, and_false, false_and, or_true, true_or, or_false, false_or, not_true_eq_false, not_false_eq_true, and_self, or_self, iff_self]; done) | (simp [h56, h67]; done) | grind | (simp_all; done)), by kernel_rfl, hp81⟩
        rintro e84 w85 ⟨x82, hd87, hb83, hE88, hp86⟩
        obtain ⟨b89, rfl⟩ := toMk hE88
        clear hE88
        clear hd87
        refine WP.test (p := (((bs[k]!) < 0)) ∨ ((¬ ((bs[k]!) < 0)) ∧ ((((n >>> (bs[k]!).toNat) &&& 1 : Nat) : Int) = 1)) ∨ ((¬ ((bs[k]!) < 0)) ∧ (¬ ((((n >>> (bs[k]!).toNat) &&& 1 : Nat) : Int) = 1)) ∧ (¬ (((lack (ah[k]!) n : Nat) : Int) = 0)))) rfl hb83 (fun h90 => ?_) (fun h90 => ?_)
        · refine WP.exit ?_
          refine thn_x ?_
          refine blk_hit ?_
          refine thn_n ?_
          refine WP.pure {} [] [0, 3, 36, 37, 38] [.pointer (some ⟨sb, 0, none⟩), .pointer (some ⟨g3, 0, none⟩), .slice a l.length cp, .int .i64 ((l.length : Nat) : Int), .int .i64 ((k : Int) + 1)] (.cons (show Rng .i64 ((k : Int) + 1) from Rng.i64 (by omega)) .nil) (by kernel_rfl) (fun b91 => ?_)
          refine thn_n ?_
          have hnn : ∀ q, ¬ Path (⟨l, valAt w0, bs, ah, need⟩ : Srch) (n, last) (k :: q) := not_may (fun hq => not_of h90 ⟨hq.2.1, hq.2.2.1, hq.2.2.2.1⟩)
          exact ⟨l.length - (k + 1), (by omega), k + 1, ao1, no1, co1, dead1, rfl, ⟨by omega, by omega, hdd, none_step hnone hnn⟩, by kernel_rfl, (hp86.sub (.cons _ (.cons_cons _ (.cons_cons _ (.cons_cons _ (.cons_cons _ (.cons_cons _ (.cons_cons _ (.refl _)))))))))⟩
        · refine WP.skip ?_
          refine thn_n ?_
          refine WP.seq ?_
          have hp92 := hp86.drew
          refine WP.held (fun w93 => Ld Try.prog w93 129 ⟨g3, 0, none⟩ (.int .u32 ((n : Nat) : Int)) ∧ Ld Try.prog w93 3 ⟨g3, 1, none⟩ (.int .i64 last) ∧ True) [9] [(0, true), (1, true), (2, true), (3, true), (4, true), (5, true), (6, true), (7, true), (8, false), (9, false)] (np_thn (np_blk (np_thn (np_thn (np_blk (np_thn np_body)))))) (by kernel_rfl) ?_
          refine HOPS.take 8 { wraps := [76], subs := [76, 77] } [.int .u32 ((n : Nat) : Int), .int .u32 ((2 ^ (bs[k]!).toNat : Nat) : Int), .int .u32 ((n ||| (2 ^ (bs[k]!).toNat) : Nat) : Int), .int .i64 last] [0, 3, 7, 8, 36, 37, 38, 80] [.pointer (some ⟨sb, 0, none⟩), .pointer (some ⟨g3, 0, none⟩), .int .i64 (k : Int), .pointer (some ⟨g42, 0, none⟩), .slice a l.length cp, .int .i64 ((l.length : Nat) : Int), .int .i64 (k : Int), .agg #[.int .u32 ((n ||| (2 ^ (bs[k]!).toNat) : Nat) : Int), .int .i64 last]] (by kernel_rfl) ⟨(show Ld Try.prog w85.drew 129 ⟨g3, 0, none⟩ (.int .u32 ((n : Nat) : Int)) from (Ld.row1 (P := Try.prog) (t := 129) (o := 0) (v := .int .u32 ((n : Nat) : Int)) hp92.get1 (by kernel_rfl))), (show Ld Try.prog w85.drew 3 ⟨g3, 1, none⟩ (.int .i64 last) from (Ld.row1 (P := Try.prog) (t := 3) (o := 1) (v := .int .i64 last) hp92.get1 (by kernel_rfl))), trivial⟩ (fun w94 hS95 => QB.mk (.cons (hS95.1) (.cons (show (0 : Int) ≤ (bs[k]!) from by omega) (.cons (show (.int .u32 (IntKind.u32.wrap (1 * 2 ^ (min (bs[k]! : Int).toNat IntKind.u32.bits))) : Go.Value) = .int .u32 ((2 ^ (bs[k]!).toNat : Nat) : Int) from congrArg (Value.int .u32) (u32_one (y := bs[k]!) (by omega) (by omega))) (.cons (show (.int .u32 (IntKind.u32.wrap (BitVec.ofInt IntKind.u32.bits ((n : Nat) : Int) ||| BitVec.ofInt IntKind.u32.bits ((2 ^ (bs[k]!).toNat : Nat) : Int)).toNat) : Go.Value) = .int .u32 ((n ||| (2 ^ (bs[k]!).toNat) : Nat) : Int) from congrArg (Value.int .u32) (u32_or (a := n) (b := 2 ^ (bs[k]!).toNat) hn (pow_lt32 (by omega)))) (.cons (hS95.2.1) .nil))))) (by kernel_rfl)) (fun b96 => ?_)
          refine HOPS.eff _ rfl (opStep.alloc hp92 [.int .u32 0, .int .i64 0] (by kernel_rfl) (fun g99 w97 hp98 => ?_))
          refine ⟨.inr ⟨(show Ld Try.prog w97 129 ⟨g3, 0, none⟩ (.int .u32 ((n : Nat) : Int)) from (Ld.row1 (P := Try.prog) (t := 129) (o := 0) (v := .int .u32 ((n : Nat) : Int)) hp98.get2 (by kernel_rfl))), (show Ld Try.prog w97 3 ⟨g3, 1, none⟩ (.int .i64 last) from (Ld.row1 (P := Try.prog) (t := 3) (o := 1) (v := .int .i64 last) hp98.get2 (by kernel_rfl))), trivial⟩, ?_⟩
          refine HOPS.eff _ rfl (opStep.store0 hp98 rfl [.int .u32 ((n ||| (2 ^ (bs[k]!).toNat) : Nat) : Int), .int .i64 last] [.int .u32 ((n ||| (2 ^ (bs[k]!).toNat) : Nat) : Int), .int .i64 last] (by kernel_rfl) (fun w100 hp101 => ?_))
          refine ⟨.inl rfl, ?_⟩
          refine HOPS.nil ?_
          refine thn_n ?_
          refine WP.cut (fun e120 w121 => ∃ (x119 : Int), ((x119 = (k : Int) ∧ ((l[k]!.Put) = true) ∧ True) ∨ (x119 = last ∧ (¬ ((l[k]!.Put) = true)) ∧ (explP (valAt w0) l (l[k]!) last) ∧ True)) ∧ List.map e120 [0, 3, 7, 10, 36, 37, 38] = [.pointer (some ⟨sb, 0, none⟩), .pointer (some ⟨g3, 0, none⟩), .int .i64 (k : Int), .pointer (some ⟨g99, 0, none⟩), .slice a l.length cp, .int .i64 ((l.length : Nat) : Int), .int .i64 (k : Int)] ∧ Hp w0 Non (Res.row g99 [.int .u32 ((n ||| (2 ^ (bs[k]!).toNat) : Nat) : Int), .int .i64 x119] 134 :: Res.row g42 [.int .i64 (l[k]!.Client), .int .i64 (l[k]!.Op), .bool (l[k]!.Put), .string (l[k]!.Key), .slice (l[k]!.Value.a) (l[k]!.Value.n) (l[k]!.Value.c), .int .i64 (l[k]!.Status), .int .i64 (l[k]!.From), .int .i64 (l[k]!.To), .bool (l[k]!.Open), .int .i64 (l[k]!.Tag.Count), .int .i64 (l[k]!.Tag.Client)] 73 :: Res.row g3 [.int .u32 ((n : Nat) : Int), .int .i64 last] 134 :: Res.row sb [.slice a l.length cp, .slice a1 n1 c1, .slice a2 n2 c2, .int .u32 ((need : Nat) : Int), .map (some dm), .slice ao1 no1 co1] 131 :: Res.own 3 1 (.slice ao1 no1 co1) no1 (List.flatMap (fun (y : Nat) => [Go.Value.int .i64 (y : Int)]) xs) :: Res.mp dm kfS (fun y : Int => Go.Value.int .i64 y) dead1 :: Res.own 3 1 (.slice a2 n2 c2) n2 (List.flatMap (fun (y : Int) => [Go.Value.int .i64 y]) bs) :: Res.own 129 1 (.slice a1 n1 c1) n1 (List.flatMap (fun (y : Nat) => [Go.Value.int .u32 (y : Int)]) ah) :: L) w121) ?_ ?_
          · refine WP.seq ?_
            refine WP.pure {} [.bool (l[k]!.Put)] [0, 3, 7, 8, 10, 36, 37, 38, 82] [.pointer (some ⟨sb, 0, none⟩), .pointer (some ⟨g3, 0, none⟩), .int .i64 (k : Int), .pointer (some ⟨g42, 0, none⟩), .pointer (some ⟨g99, 0, none⟩), .slice a l.length cp, .int .i64 ((l.length : Nat) : Int), .int .i64 (k : Int), .bool (l[k]!.Put)] (.cons (Ld.row1 (P := Try.prog) (t := 4) (o := 2) (v := .bool (l[k]!.Put)) hp101.get1 (by kernel_rfl)) .nil) (by kernel_rfl) (fun b103 => ?_)
            refine thn_n ?_
            refine WP.test (p := (l[k]!.Put) = true) rfl Bp.var (fun h104 => ?_) (fun h104 => ?_)
            · refine WP.region _ rfl (by kernel_rfl) ?_
              refine OPS.batch 2 {} [] [0, 3, 7, 10, 36, 37, 38, 83, 84] [.pointer (some ⟨sb, 0, none⟩), .pointer (some ⟨g3, 0, none⟩), .int .i64 (k : Int), .pointer (some ⟨g99, 0, none⟩), .slice a l.length cp, .int .i64 ((l.length : Nat) : Int), .int .i64 (k : Int), .int .i64 (k : Int), .pointer (some ⟨g99, 1, none⟩)] .nil (by kernel_rfl) (fun b105 => ?_)
              refine OPS.cons (opStep.store0 hp101 rfl [.int .i64 (k : Int)] [.int .u32 ((n ||| (2 ^ (bs[k]!).toNat) : Nat) : Int), .int .i64 (k : Int)] (by kernel_rfl) (fun w106 hp107 => ?_))
              refine OPS.nil ?_
              refine thn_n ?_
              exact ⟨(k : Int), Or.inl ⟨rfl, h104, trivial⟩, by kernel_rfl, hp107⟩
            · refine WP.seq ?_
              refine WP.region _ rfl (by kernel_rfl) ?_
              refine OPS.batch 4 {} [GCall.val (l[k]!), .int .i64 last] [0, 3, 7, 10, 36, 37, 38, 85, 86, 88] [.pointer (some ⟨sb, 0, none⟩), .pointer (some ⟨g3, 0, none⟩), .int .i64 (k : Int), .pointer (some ⟨g99, 0, none⟩), .slice a l.length cp, .int .i64 ((l.length : Nat) : Int), .int .i64 (k : Int), .pointer (some ⟨sb, 0, none⟩), GCall.val (l[k]!), .int .i64 last] (.cons (show Ld Try.prog w100 73 ⟨g42, 0, none⟩ (GCall.val (l[k]!)) from Ld.rowN (cs := [.int .i64 (l[k]!.Client), .int .i64 (l[k]!.Op), .bool (l[k]!.Put), .string (l[k]!.Key), .slice (l[k]!.Value.a) (l[k]!.Value.n) (l[k]!.Value.c), .int .i64 (l[k]!.Status), .int .i64 (l[k]!.From), .int .i64 (l[k]!.To), .bool (l[k]!.Open), .int .i64 (l[k]!.Tag.Count), .int .i64 (l[k]!.Tag.Client)]) hp101.get1 (by kernel_rfl)) (.cons (Ld.row1 (P := Try.prog) (t := 3) (o := 1) (v := .int .i64 last) hp101.get2 (by kernel_rfl)) .nil)) (by kernel_rfl) (fun b108 => ?_)
              have hp111 := hp101.pull3
              refine OPS.cons (opStep.call (some 89) [.pointer (some ⟨sb, 0, none⟩), GCall.val (l[k]!), .int .i64 last] (by kernel_rfl) (lin_explained sb l a cp _ _ _ _ _ (l[k]!) last w0 _ _ hp111 hs hv (hv l[k]! (List.mem_of_getElem? hy38)) (by omega)) ?_)
              rintro _ w112 ⟨b114, rfl, hb115, hp113⟩
              refine ⟨_, rfl, ?_⟩
              refine OPS.batch 1 {} [] [0, 3, 7, 10, 36, 37, 38, 90] [.pointer (some ⟨sb, 0, none⟩), .pointer (some ⟨g3, 0, none⟩), .int .i64 (k : Int), .pointer (some ⟨g99, 0, none⟩), .slice a l.length cp, .int .i64 ((l.length : Nat) : Int), .int .i64 (k : Int), .bool (!b114)] .nil (by kernel_rfl) (fun b116 => ?_)
              refine OPS.nil ?_
              refine thn_n ?_
              refine WP.test (p := ¬ (explP (valAt w0) l (l[k]!) last)) rfl (Bp.not hb115) (fun h117 => ?_) (fun h117 => ?_)
              · refine WP.exit ?_
                refine thn_x ?_
                refine blk_hit ?_
                refine thn_n ?_
                refine WP.pure {} [] [0, 3, 36, 37, 38] [.pointer (some ⟨sb, 0, none⟩), .pointer (some ⟨g3, 0, none⟩), .slice a l.length cp, .int .i64 ((l.length : Nat) : Int), .int .i64 ((k : Int) + 1)] (.cons (show Rng .i64 ((k : Int) + 1) from Rng.i64 (by omega)) .nil) (by kernel_rfl) (fun b118 => ?_)
                refine thn_n ?_
                have hnn : ∀ q, ¬ Path (⟨l, valAt w0, bs, ah, need⟩ : Srch) (n, last) (k :: q) := not_may (fun hq => hq.2.2.2.2.elim h104 h117)
                exact ⟨l.length - (k + 1), (by omega), k + 1, ao1, no1, co1, dead1, rfl, ⟨by omega, by omega, hdd, none_step hnone hnn⟩, by kernel_rfl, (((((((hp113.pull7).pull7).pull7).pull7).pull4).pull7).sub (.cons_cons _ (.cons_cons _ (.cons_cons _ (.cons_cons _ (.cons_cons _ (.cons_cons _ (.cons _ (.cons _ (.refl _))))))))))⟩
              · replace h117 := Classical.not_not.1 h117
                refine WP.skip ?_
                refine thn_n ?_
                exact ⟨last, Or.inr (⟨rfl, h104, h117, trivial⟩), by kernel_rfl, (((((((((hp113.pull7).pull7).pull7).pull7).pull4).pull7).pull7).pull7).sub (.cons_cons _ (.cons_cons _ (.cons_cons _ (.cons_cons _ (.cons_cons _ (.cons_cons _ (.cons_cons _ (.cons_cons _ (.refl _))))))))))⟩
          rintro e120 w121 ⟨x119, hd123, hE124, hp122⟩
          obtain ⟨b125, rfl⟩ := toMk hE124
          clear hE124
          refine WP.seq ?_
          refine WP.region _ rfl (by kernel_rfl) ?_
          refine OPS.batch 6 {} [.slice ao1 no1 co1] [0, 3, 10, 36, 37, 38, 91, 95, 96] [.pointer (some ⟨sb, 0, none⟩), .pointer (some ⟨g3, 0, none⟩), .pointer (some ⟨g99, 0, none⟩), .slice a l.length cp, .int .i64 ((l.length : Nat) : Int), .int .i64 (k : Int), .pointer (some ⟨sb, 0, none⟩), .slice ao1 no1 co1, .int .i64 (k : Int)] (.cons (Ld.row1 (P := Try.prog) (t := 24) (o := 5) (v := .slice ao1 no1 co1) hp122.get3 (by kernel_rfl)) .nil) (by kernel_rfl) (fun b126 => ?_)
          refine OPS.cons (opStep.buildSlice (E := 3) hp122 [.int .i64 (k : Int)] (by kernel_rfl) (fun g129 w127 hp128 => ?_))
          refine OPS.cons (opStep.append5 [.int .i64 (k : Int)] hp128 8 (by kernel_rfl) rfl rfl rfl (SlR.row (n := 1) hp128.get0 rfl).rd (List.all_eq_true.1 (by kernel_rfl)) (by decide) (by omega) (by omega) (fun a132 c133 w134 hp135 hn136 => ?_))
          rw [(show List.flatMap (fun (y : Nat) => [Go.Value.int .i64 (y : Int)]) xs ++ [.int .i64 (k : Int)] = List.flatMap (fun (y : Nat) => [Go.Value.int .i64 (y : Int)]) (xs ++ [k]) from (List.flatMap_append (xs := xs) (ys := [k])).symm)] at hp135
          refine OPS.batch 2 {} [] [0, 3, 10, 36, 37, 38, 98, 100] [.pointer (some ⟨sb, 0, none⟩), .pointer (some ⟨g3, 0, none⟩), .pointer (some ⟨g99, 0, none⟩), .slice a l.length cp, .int .i64 ((l.length : Nat) : Int), .int .i64 (k : Int), .slice a132 (no1 + 1) c133, .pointer (some ⟨sb, 5, none⟩)] .nil (by kernel_rfl) (fun b137 => ?_)
          refine OPS.cons (opStep.store4 hp135 rfl [.slice a132 (no1 + 1) c133] [.slice a l.length cp, .slice a1 n1 c1, .slice a2 n2 c2, .int .u32 ((need : Nat) : Int), .map (some dm), .slice a132 (no1 + 1) c133] (by kernel_rfl) (fun w138 hp139 => ?_))
          refine OPS.nil ?_
          refine thn_n ?_
          refine WP.seq ?_
          refine WP.seq ?_
          refine WP.region _ rfl (by kernel_rfl) ?_
          refine OPS.batch 2 {} [.agg #[.int .u32 ((n ||| (2 ^ (bs[k]!).toNat) : Nat) : Int), .int .i64 x119]] [0, 3, 36, 37, 38, 101, 102] [.pointer (some ⟨sb, 0, none⟩), .pointer (some ⟨g3, 0, none⟩), .slice a l.length cp, .int .i64 ((l.length : Nat) : Int), .int .i64 (k : Int), .pointer (some ⟨sb, 0, none⟩), .agg #[.int .u32 ((n ||| (2 ^ (bs[k]!).toNat) : Nat) : Int), .int .i64 x119]] (.cons (show Ld Try.prog w138 134 ⟨g99, 0, none⟩ (.agg #[.int .u32 ((n ||| (2 ^ (bs[k]!).toNat) : Nat) : Int), .int .i64 x119]) from Ld.rowN (cs := [.int .u32 ((n ||| (2 ^ (bs[k]!).toNat) : Nat) : Int), .int .i64 x119]) hp139.get1 (by kernel_rfl)) .nil) (by kernel_rfl) (fun b140 => ?_)
          have hp143 := hp139.pull8
          have hp144 := hp143.pull8
          have hp145 := hp144.pull8
          have hp146 := hp145.pull8
          have hp147 := hp146.pull8
          obtain ⟨hb0, hbit, hlack⟩ := may_of h90
          have hgo : Srch.go (⟨l, valAt w0, bs, ah, need⟩ : Srch) k (n, last) = (n ||| (2 ^ (bs[k]!).toNat), x119) := by rcases hd123 with ⟨e, hq, _⟩ | ⟨e, hq, _⟩; (show (_, _) = (_, _); rw [if_pos hq, e]); (show (_, _) = (_, _); rw [if_neg hq, e])
          have hmay : Srch.may (⟨l, valAt w0, bs, ah, need⟩ : Srch) k (n, last) := ⟨show k < l.length by omega, hb0, hbit, hlack, by rcases hd123 with ⟨_, hq, _⟩ | ⟨_, _, hq, _⟩; exact .inl hq; exact .inr hq⟩
          have hgt := or_bit_gt hbit
          refine OPS.cons (opStep.call (some 103) [.pointer (some ⟨sb, 0, none⟩), .agg #[.int .u32 ((n ||| (2 ^ (bs[k]!).toNat) : Nat) : Int), .int .i64 x119]] (by kernel_rfl) (ih _ (n ||| (2 ^ (bs[k]!).toNat)) x119 a132 (no1 + 1) c133 (xs ++ [k]) dead1 _ (or_lt32 hn (pow_lt32 (by omega))) (by omega) (by omega) hdd hp147 (by omega)) ?_)
          rintro _ w148 ⟨b150, ao151, no152, co153, xs154, dd155, rfl, hr156, hp149⟩
          refine ⟨_, rfl, ?_⟩
          obtain ⟨hr1, hr2, hdd2⟩ := hr156
          have hl0 := own_flat (sz := 1) (fun _ => rfl) (by decide) hp147.get1
          cases b150
          · obtain ⟨hfl, hfb⟩ := hr2 rfl
            subst hfl
            have hl1 := own_flat (sz := 1) (fun _ => rfl) (by decide) hp149.get1
            refine OPS.nil ?_
            refine thn_n ?_
            refine WP.condF rfl ?_
            refine WP.skip ?_
            refine thn_n ?_
            have hp157 := hp149.drew
            have := own_cap hp157.get1
            refine WP.held (fun w158 => Ld Try.prog w158 24 ⟨sb, 5, none⟩ (.slice ao151 no152 co153) ∧ True) [14] [(0, true), (1, true), (2, true), (3, true), (4, true), (5, true), (6, true), (7, true), (8, true), (9, true), (10, true), (11, true), (12, false), (13, true), (14, false)] (np_blk (np_thn (np_thn (np_blk (np_thn np_body))))) (by kernel_rfl) ?_
            have := own_cap hp157.get1
            refine HOPS.take 12 {} [.slice ao151 no152 co153, .slice ao151 no152 co153] [0, 3, 36, 37, 38, 104, 115] [.pointer (some ⟨sb, 0, none⟩), .pointer (some ⟨g3, 0, none⟩), .slice a l.length cp, .int .i64 ((l.length : Nat) : Int), .int .i64 (k : Int), .pointer (some ⟨sb, 0, none⟩), .slice ao151 ((((no152 : Nat) : Int) - 1 : Int).toNat) co153] (by kernel_rfl) ⟨(show Ld Try.prog w148.drew 24 ⟨sb, 5, none⟩ (.slice ao151 no152 co153) from (Ld.row1 (P := Try.prog) (t := 24) (o := 5) (v := .slice ao151 no152 co153) hp157.get0 (by kernel_rfl))), trivial⟩ (fun w159 hS160 => QB.mk (.cons (hS160.1) (.cons (hS160.1) (.cons (show Rng .i64 (((no152 : Nat) : Int) - 1) from Rng.i64 (by omega)) (.cons (show (0 : Int) ≤ (((no152 : Nat) : Int) - 1) ∧ (((no152 : Nat) : Int) - 1) ≤ ((co153 : Nat) : Int) from ⟨by omega, by omega⟩) .nil)))) (by kernel_rfl)) (fun b161 => ?_)
            refine HOPS.one _ rfl {} [] [0, 3, 36, 37, 38, 115, 116] [.pointer (some ⟨sb, 0, none⟩), .pointer (some ⟨g3, 0, none⟩), .slice a l.length cp, .int .i64 ((l.length : Nat) : Int), .int .i64 (k : Int), .slice ao151 ((((no152 : Nat) : Int) - 1 : Int).toNat) co153, .pointer (some ⟨sb, 0, none⟩)] .nil (by kernel_rfl) ⟨(show Ld Try.prog w148.drew 24 ⟨sb, 5, none⟩ (.slice ao151 no152 co153) from (Ld.row1 (P := Try.prog) (t := 24) (o := 5) (v := .slice ao151 no152 co153) hp157.get0 (by kernel_rfl))), trivial⟩ (fun b164 => ?_)
            refine HOPS.take 1 {} [] [0, 3, 36, 37, 38, 115, 117] [.pointer (some ⟨sb, 0, none⟩), .pointer (some ⟨g3, 0, none⟩), .slice a l.length cp, .int .i64 ((l.length : Nat) : Int), .int .i64 (k : Int), .slice ao151 ((((no152 : Nat) : Int) - 1 : Int).toNat) co153, .pointer (some ⟨sb, 5, none⟩)] (by kernel_rfl) ⟨(show Ld Try.prog w148.drew 24 ⟨sb, 5, none⟩ (.slice ao151 no152 co153) from (Ld.row1 (P := Try.prog) (t := 24) (o := 5) (v := .slice ao151 no152 co153) hp157.get0 (by kernel_rfl))), trivial⟩ (fun w165 hS166 => QB.mk .nil (by kernel_rfl)) (fun b167 => ?_)
            refine HOPS.eff _ rfl (opStep.store0 hp157 rfl [.slice ao151 ((((no152 : Nat) : Int) - 1 : Int).toNat) co153] [.slice a l.length cp, .slice a1 n1 c1, .slice a2 n2 c2, .int .u32 ((need : Nat) : Int), .map (some dm), .slice ao151 ((((no152 : Nat) : Int) - 1 : Int).toNat) co153] (by kernel_rfl) (fun w168 hp169 => ?_))
            have hp170 := hp169.turn1 (Res.own 3 1 (.slice ao151 ((((no152 : Nat) : Int) - 1 : Int).toNat) co153) ((((no152 : Nat) : Int) - 1 : Int).toNat) (List.flatMap (fun (y : Nat) => [Go.Value.int .i64 (y : Int)]) (List.take ((((no152 : Nat) : Int) - 1 : Int).toNat) (xs ++ [k])))) (fun hh => by rw [← flat_take (sz := 1) (fun _ => rfl)]; exact own_cut (by omega) hh) own_foot
            refine ⟨.inl rfl, ?_⟩
            refine HOPS.nil ?_
            refine blk_n ?_
            refine thn_n ?_
            refine WP.pure {} [] [0, 3, 36, 37, 38] [.pointer (some ⟨sb, 0, none⟩), .pointer (some ⟨g3, 0, none⟩), .slice a l.length cp, .int .i64 ((l.length : Nat) : Int), .int .i64 ((k : Int) + 1)] (.cons (show Rng .i64 ((k : Int) + 1) from Rng.i64 (by omega)) .nil) (by kernel_rfl) (fun b171 => ?_)
            refine thn_n ?_
            have hxs : List.take ((((no152 : Nat) : Int) - 1 : Int).toNat) (xs ++ [k]) = xs := List.take_left' (by have e : (xs ++ [k]).length = xs.length + 1 := (by simp); omega)
            have hp172 := hp170
            rw [hxs] at hp172
            have hnn : ∀ q, ¬ Path (⟨l, valAt w0, bs, ah, need⟩ : Srch) (n, last) (k :: q) := fun q hq => hfb q (by have := hq.2.2; rwa [hgo] at this)
            exact ⟨l.length - (k + 1), (by omega), k + 1, ao151, (((no152 : Nat) : Int) - 1 : Int).toNat, co153, dd155, rfl, ⟨by omega, by omega, hdd2, none_step hnone hnn⟩, by kernel_rfl, (((((((hp172.pull4).pull4).pull4).pull4).pull4).pull8).sub (.cons_cons _ (.cons_cons _ (.cons_cons _ (.cons_cons _ (.cons_cons _ (.cons_cons _ (.cons _ (.cons _ (.cons _ (.refl _)))))))))))⟩
          · refine OPS.nil ?_
            refine thn_n ?_
            refine WP.condT rfl ?_
            refine WP.seq ?_
            refine WP.pure {} [] [4] [.bool true] .nil (by kernel_rfl) (fun b173 => ?_)
            refine thn_n ?_
            refine WP.ret ?_
            refine thn_r ?_
            refine blk_r ?_
            refine thn_r ?_
            refine thn_r ?_
            refine blk_r ?_
            refine thn_r ?_
            refine bodyQ.of _ rfl [.bool true] ⟨rfl, trivial⟩ ?_
            have hnd : ¬ Srch.done (⟨l, valAt w0, bs, ah, need⟩ : Srch) (n, last) := fun hh => h13 (by have : n &&& need = need := hh; omega)
            exact ⟨true, ao151, no152, co153, xs154, dd155, rfl, ⟨fun _ => by obtain ⟨p, hp1, hp2⟩ := hr1 rfl; exact ⟨k :: p, best_cons hnd hmay (by rw [hgo]; exact hp1) hnone, by rw [hp2]; simp⟩, fun h => absurd h (by decide), hdd2⟩, (hp149.sub (.cons_cons _ (.cons_cons _ (.cons_cons _ (.cons_cons _ (.cons_cons _ (.cons _ (.cons _ (.cons _ (.cons _ (.refl _)))))))))))⟩
      · refine WP.exit ?_
        refine thn_x ?_
        refine thn_x ?_
        refine blk_hit ?_
        refine thn_n ?_
        refine WP.seq ?_
        have hp174 := hp29.drew
        refine WP.held (fun w175 => Ld Try.prog w175 127 ⟨sb, 4, none⟩ (.map (some dm)) ∧ Ld Try.prog w175 134 ⟨g3, 0, none⟩ (.agg #[.int .u32 ((n : Nat) : Int), .int .i64 last]) ∧ Ld Try.prog w175 24 ⟨sb, 5, none⟩ (.slice ao1 no1 co1) ∧ True) [10] [(0, true), (1, true), (2, true), (3, true), (4, true), (5, true), (6, true), (7, true), (8, true), (9, true), (10, false)] (np_thn np_body) (by kernel_rfl) ?_
        refine HOPS.take 10 {} [.map (some dm), .agg #[.int .u32 ((n : Nat) : Int), .int .i64 last], .slice ao1 no1 co1] [122, 123, 128] [.map (some dm), .agg #[.int .u32 ((n : Nat) : Int), .int .i64 last], .int .i64 ((no1 : Nat) : Int)] (by kernel_rfl) ⟨(show Ld Try.prog w28.drew 127 ⟨sb, 4, none⟩ (.map (some dm)) from (Ld.row1 (P := Try.prog) (t := 127) (o := 4) (v := .map (some dm)) hp174.get1 (by kernel_rfl))), (show Ld Try.prog w28.drew 134 ⟨g3, 0, none⟩ (.agg #[.int .u32 ((n : Nat) : Int), .int .i64 last]) from (show Ld Try.prog w28.drew 134 ⟨g3, 0, none⟩ (.agg #[.int .u32 ((n : Nat) : Int), .int .i64 last]) from Ld.rowN (cs := [.int .u32 ((n : Nat) : Int), .int .i64 last]) hp174.get0 (by kernel_rfl))), (show Ld Try.prog w28.drew 24 ⟨sb, 5, none⟩ (.slice ao1 no1 co1) from (Ld.row1 (P := Try.prog) (t := 24) (o := 5) (v := .slice ao1 no1 co1) hp174.get1 (by kernel_rfl))), trivial⟩ (fun w176 hS177 => QB.mk (.cons (hS177.1) (.cons (hS177.2.1) (.cons (hS177.2.2.1) .nil))) (by kernel_rfl)) (fun b178 => ?_)
        refine HOPS.eff _ rfl (opStep.mapUpdate3 keyState (by exact Try.underlying127) hp174 (n, last) ((no1 : Nat) : Int) (by kernel_rfl) (fun w179 hp180 => ?_))
        refine ⟨.inl rfl, ?_⟩
        refine HOPS.nil ?_
        refine thn_n ?_
        refine WP.seq ?_
        refine WP.pure {} [] [4] [.bool false] .nil (by kernel_rfl) (fun b181 => ?_)
        refine thn_n ?_
        refine WP.ret ?_
        refine bodyQ.of _ rfl [.bool false] ⟨rfl, trivial⟩ ?_
        have hnd : ¬ Srch.done (⟨l, valAt w0, bs, ah, need⟩ : Srch) (n, last) := fun hh => h13 (by have : n &&& need = need := hh; omega)
        have hbad : Bad (⟨l, valAt w0, bs, ah, need⟩ : Srch) (n, last) := bad_all hnd (fun j hj => hnone j (show j < k from by have : j < l.length := hj; omega))
        exact ⟨false, ao1, no1, co1, xs, mapPut dead1 (n, last) ((no1 : Nat) : Int), rfl, ⟨fun h => absurd h (by decide), fun _ => ⟨rfl, hbad⟩, fun q hq => by rcases mapPut_sub q hq with rfl | hq; exact hbad; exact hdd q hq⟩, (hp180.sub (.cons _ (.cons_cons _ (.cons_cons _ (.cons_cons _ (.cons_cons _ (.cons_cons _ (.refl _))))))))⟩

end Go.Proofs.Ytdahgdkadfdkeaa.K
