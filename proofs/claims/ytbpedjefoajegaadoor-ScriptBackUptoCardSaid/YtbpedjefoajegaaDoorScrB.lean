/- The walks of ScrB: what each function computes. -/
import Derived.Test.YtbpedjefoajegaaDoorProg
import Derived.Test.YtbpedjefoajegaaDoorCoreO
import Derived.Test.YtbpedjefoajegaaDoorScrA
namespace Go.Proofs.YtbpedjefoajegaaDoor.K
open Go Go.Proofs Go.RowKit
set_option linter.unusedVariables false
set_option linter.unusedSimpArgs false
set_option maxRecDepth 20000
set_option maxHeartbeats 4000000

theorem byte_of (s : ByteArray) (k : Int) : ∃ n : Nat, n < 256 ∧ byteAt s k = n := ⟨_, ((s.data.toList[k.toNat]?).getD 0).toNat_lt, rfl⟩
theorem nib_hi (s : ByteArray) (k : Int) : (byteAt s k).fdiv (2 ^ (min (4 : Int).toNat IntKind.u8.bits)) = byteAt s k / 16 := by
  obtain ⟨n, hn, e⟩ := byte_of s k
  rw [e, show ((2 : Int) ^ (min (4 : Int).toNat IntKind.u8.bits)) = 16 from rfl, Int.fdiv_eq_ediv_of_nonneg _ (by decide)]
theorem nib_lo (s : ByteArray) (k : Int) : IntKind.u8.wrap (BitVec.ofInt IntKind.u8.bits (byteAt s k) &&& BitVec.ofInt IntKind.u8.bits 15).toNat = byteAt s k % 16 := by
  obtain ⟨n, hn, e⟩ := byte_of s k
  rw [e]
  exact (by decide +kernel : ∀ n : Nat, n < 256 → IntKind.u8.wrap (BitVec.ofInt IntKind.u8.bits (n : Int) &&& BitVec.ofInt IntKind.u8.bits 15).toNat = (n : Int) % 16) n hn
theorem dig_at {n : Int} (h : 0 ≤ n ∧ n < 16) : byteAt ⟨#[48, 49, 50, 51, 52, 53, 54, 55, 56, 57, 97, 98, 99, 100, 101, 102]⟩ n = ((hexD n.toNat).toNat : Int) := by
  obtain ⟨m, rfl⟩ : ∃ m : Nat, n = m := ⟨n.toNat, by omega⟩
  exact (by decide +kernel : ∀ m : Nat, m < 16 → byteAt ⟨#[48, 49, 50, 51, 52, 53, 54, 55, 56, 57, 97, 98, 99, 100, 101, 102]⟩ (m : Int) = ((hexD (m : Int).toNat).toNat : Int)) m (by omega)
theorem strOf_app (a b : List Int) : (strOf (a ++ b)).data.toList = (strOf a).data.toList ++ (strOf b).data.toList := by
  have key : ∀ l : List Int, strOf l = ⟨(l.map fun n => UInt8.ofNat n.toNat).toArray⟩ := fun l => by
    have h : ∀ (l : List Int) (m : List UInt8), l.foldl (fun r n => r.push (UInt8.ofNat n.toNat)) (⟨m.toArray⟩ : ByteArray) = ⟨(m ++ l.map fun n => UInt8.ofNat n.toNat).toArray⟩ := by
      intro l
      induction l with
      | nil => intro m; simp
      | cons y l ih =>
        intro m
        rw [List.foldl_cons, show (⟨m.toArray⟩ : ByteArray).push (UInt8.ofNat y.toNat) = ⟨(m ++ [UInt8.ofNat y.toNat]).toArray⟩ from by simp [ByteArray.push], ih]
        simp
    have := h l []
    rw [List.nil_append] at this
    exact this
  rw [key, key, key]; simp
theorem u8_back (c : UInt8) : UInt8.ofNat ((c.toNat : Int)).toNat = c := by
  rw [show ((c.toNat : Int)).toNat = c.toNat from rfl]; simp
theorem byte_get {s : ByteArray} {k : Nat} (h : k < s.data.toList.length) : byteAt s ((k : Nat) : Int) = (s.data.toList[k].toNat : Int) := by
  unfold byteAt
  rw [show ((k : Nat) : Int).toNat = k from rfl, List.getElem?_eq_getElem h]; rfl
theorem hex_step {b : ByteArray} {xs : List Int} {k : Nat} {p q : Int} (hk : k < b.size) (h : (strOf xs).data.toList = hexL (b.data.toList.take k)) (hp : p = byteAt b ((k : Nat) : Int) / 16) (hq : q = byteAt b ((k : Nat) : Int) % 16) :
    (strOf (xs ++ [byteAt ⟨#[48, 49, 50, 51, 52, 53, 54, 55, 56, 57, 97, 98, 99, 100, 101, 102]⟩ p, byteAt ⟨#[48, 49, 50, 51, 52, 53, 54, 55, 56, 57, 97, 98, 99, 100, 101, 102]⟩ q])).data.toList = hexL (b.data.toList.take (k + 1)) := by
  have hk' : k < b.data.toList.length := by rw [← size_list]; exact hk
  have e := byte_get hk'
  have hlt := b.data.toList[k].toNat_lt
  rw [strOf_app, h, List.take_succ_eq_append_getElem hk', dig_at (by omega), dig_at (by omega)]
  unfold hexL
  rw [List.flatMap_append]
  congr 1
  rw [List.flatMap_cons, List.flatMap_nil, List.append_nil, hp, hq, e]
  show [UInt8.ofNat _, UInt8.ofNat _] = _
  rw [u8_back, u8_back, show ((b.data.toList[k].toNat : Int) / 16).toNat = b.data.toList[k].toNat / 16 from by omega, show ((b.data.toList[k].toNat : Int) % 16).toNat = b.data.toList[k].toNat % 16 from by omega]
theorem sc_written (b : ByteArray) (hb : b.size ≤ 1099511627776) (w : World) :
    Calls Tryd.prog 29 #[.string b] w (fun r_ w' => r_ = .returned (.string (hexT b)) ∧ Fram Non w w') := by
  refine calls_of Tryd.func29 rfl 28 rfl (by simp) ?_
  have hp0 := Hp.init w
  have he0 : List.map (env0 [.string b]) [0] = [.string b] := by kernel_rfl
  obtain ⟨b0, he0⟩ := toMk he0
  rw [he0]
  clear he0
  refine WP.seq ?_
  refine WP.pure {} [] [0] [.string b] .nil (by kernel_rfl) (fun b1 => ?_)
  refine thn_n ?_
  refine WP.seq ?_
  refine WP.seq ?_
  refine WP.pure {} [] [0, 6] [.string b, .bool (decide (b = ⟨#[]⟩))] .nil (by kernel_rfl) (fun b2 => ?_)
  refine thn_n ?_
  refine WP.test (p := b = ⟨#[]⟩) rfl Bp.dec (fun h3 => ?_) (fun h3 => ?_)
  · refine WP.seq ?_
    refine WP.pure {} [] [2] [.string ⟨#[45]⟩] .nil (by kernel_rfl) (fun b4 => ?_)
    refine thn_n ?_
    refine WP.ret ?_
    refine thn_r ?_
    refine bodyQ.of _ rfl [.string ⟨#[45]⟩] ⟨rfl, trivial⟩ ?_
    exact ⟨by simp only [pack]; unfold hexT; rw [if_pos (by rw [h3])], hp0.fr⟩
  · refine WP.skip ?_
    refine thn_n ?_
    refine WP.seq ?_
    refine WP.pure {} [] [0, 3] [.string b, .slice none 0 0] .nil (by kernel_rfl) (fun b5 => ?_)
    refine thn_n ?_
    refine WP.seq ?_
    refine WP.seq ?_
    refine WP.pure {} [] [0, 3, 8, 9] [.string b, .slice none 0 0, .int .i64 (b.size : Int), .int .i64 0] .nil (by kernel_rfl) (fun b6 => ?_)
    refine thn_n ?_
    refine WP.block ?_
    have hp7 := (show Hp w Non [Res.own 5 1 (.slice none 0 0) 0 (List.flatMap u8c ([] : List Int))] w from hp0.nilOwn 5 1)
    refine WP.loop (fun mz_ e8 w9 => ∃ (k : Nat) (xs : List Int) (ao : Option Addr) (no : Nat) (co : Nat), mz_ = b.size - k ∧ (k ≤ b.size ∧ (strOf xs).data.toList = hexL (b.data.toList.take k)) ∧ List.map e8 [0, 3, 8, 9] = [.string b, .slice ao no co, .int .i64 (b.size : Int), .int .i64 (k : Int)] ∧ Hp w Non [Res.own 5 1 (.slice ao no co) no (List.flatMap u8c xs)] w9) (b.size - (0)) ⟨0, [], none, 0, 0, rfl, ⟨by omega, rfl⟩, by kernel_rfl, hp7⟩ ?_
    rintro _ e8 w9 ⟨k, xs, ao, no, co, rfl, hI11, hE12, hp10⟩
    obtain ⟨b13, rfl⟩ := toMk hE12
    clear hE12
    obtain ⟨pa, pb⟩ := hI11
    have pe := own_flat (sz := 1) (fun _ => rfl) (by decide) hp10.get0
    have pl : xs.length = 2 * k := by have := congrArg List.length pb; rw [hexL_len, List.length_take, ← size_list, ← size_list, strOf_len] at this; omega
    have nh := nib_hi b (k : Int)
    have nl := nib_lo b (k : Int)
    have nb := byte_of b (k : Int)
    obtain ⟨nb1, nb2, nb3⟩ := nb
    have hds : (⟨#[48, 49, 50, 51, 52, 53, 54, 55, 56, 57, 97, 98, 99, 100, 101, 102]⟩ : ByteArray).size = 16 := rfl
    refine WP.seq ?_
    refine WP.pure {} [] [0, 3, 8, 9, 10] [.string b, .slice ao no co, .int .i64 (b.size : Int), .int .i64 (k : Int), .bool (decide ((k : Int) < (b.size : Int)))] .nil (by kernel_rfl) (fun b14 => ?_)
    refine thn_n ?_
    refine WP.seq ?_
    refine WP.test (p := (k : Int) < (b.size : Int)) rfl Bp.dec (fun h15 => ?_) (fun h15 => ?_)
    · refine WP.skip ?_
      refine thn_n ?_
      refine WP.seq ?_
      refine WP.block ?_
      refine WP.seq ?_
      refine WP.pure {} [] [0, 3, 4, 8, 9] [.string b, .slice ao no co, .int .i64 (k : Int), .int .i64 (b.size : Int), .int .i64 (k : Int)] .nil (by kernel_rfl) (fun b16 => ?_)
      refine thn_n ?_
      have hp17 := hp10.drew
      refine WP.held (fun w18 => True) [] [(0, true), (1, true), (2, true), (3, true), (4, true), (5, true), (6, true), (7, true), (8, true), (9, true), (10, true), (11, false), (12, false), (13, true)] (np_blk (np_thn (np_thn (np_blk (np_thn np_body))))) (by kernel_rfl) ?_
      refine HOPS.take 11 {} [] [0, 8, 9, 12, 17, 22] [.string b, .int .i64 (b.size : Int), .int .i64 (k : Int), .slice ao no co, .int .u8 (byteAt ⟨#[48, 49, 50, 51, 52, 53, 54, 55, 56, 57, 97, 98, 99, 100, 101, 102]⟩ ((byteAt b ((k : Int))).fdiv (2 ^ (min (4 : Int).toNat IntKind.u8.bits)))), .int .u8 (byteAt ⟨#[48, 49, 50, 51, 52, 53, 54, 55, 56, 57, 97, 98, 99, 100, 101, 102]⟩ (IntKind.u8.wrap (BitVec.ofInt IntKind.u8.bits (byteAt b ((k : Int))) &&& BitVec.ofInt IntKind.u8.bits 15).toNat))] (by kernel_rfl) trivial (fun w19 hS20 => QB.mk (.cons (show InB ((k : Int)) b.size from ⟨by omega, by omega⟩) (.cons (show (0 : Int) ≤ 4 from by omega) (.cons (show InB ((byteAt b ((k : Int))).fdiv (2 ^ (min (4 : Int).toNat IntKind.u8.bits))) (⟨#[48, 49, 50, 51, 52, 53, 54, 55, 56, 57, 97, 98, 99, 100, 101, 102]⟩ : ByteArray).size from ⟨by omega, by omega⟩) (.cons (show InB ((k : Int)) b.size from ⟨by omega, by omega⟩) (.cons (show InB (IntKind.u8.wrap (BitVec.ofInt IntKind.u8.bits (byteAt b ((k : Int))) &&& BitVec.ofInt IntKind.u8.bits 15).toNat) (⟨#[48, 49, 50, 51, 52, 53, 54, 55, 56, 57, 97, 98, 99, 100, 101, 102]⟩ : ByteArray).size from ⟨by omega, by omega⟩) .nil))))) (by kernel_rfl)) (fun b21 => ?_)
      refine HOPS.eff _ rfl (opStep.buildSlice (E := 5) hp17 [.int .u8 (byteAt ⟨#[48, 49, 50, 51, 52, 53, 54, 55, 56, 57, 97, 98, 99, 100, 101, 102]⟩ ((byteAt b ((k : Int))).fdiv (2 ^ (min (4 : Int).toNat IntKind.u8.bits)))), .int .u8 (byteAt ⟨#[48, 49, 50, 51, 52, 53, 54, 55, 56, 57, 97, 98, 99, 100, 101, 102]⟩ (IntKind.u8.wrap (BitVec.ofInt IntKind.u8.bits (byteAt b ((k : Int))) &&& BitVec.ofInt IntKind.u8.bits 15).toNat))] (by kernel_rfl) (fun g24 w22 hp23 => ?_))
      refine ⟨.inr trivial, ?_⟩
      have hrd32 := (SlR.row (n := 2) hp23.get0 rfl).rd
      refine HOPS.eff _ rfl (opStep.append1 _ hp23 1 (by kernel_rfl) rfl rfl rfl hrd32 (List.all_eq_true.1 (by kernel_rfl)) (by decide) (by omega) (by omega) (fun a27 c28 w29 hp30 hn31 => ?_))
      rw [(show List.flatMap u8c xs ++ [.int .u8 (byteAt ⟨#[48, 49, 50, 51, 52, 53, 54, 55, 56, 57, 97, 98, 99, 100, 101, 102]⟩ ((byteAt b ((k : Int))).fdiv (2 ^ (min (4 : Int).toNat IntKind.u8.bits)))), .int .u8 (byteAt ⟨#[48, 49, 50, 51, 52, 53, 54, 55, 56, 57, 97, 98, 99, 100, 101, 102]⟩ (IntKind.u8.wrap (BitVec.ofInt IntKind.u8.bits (byteAt b ((k : Int))) &&& BitVec.ofInt IntKind.u8.bits 15).toNat))] = List.flatMap u8c (xs ++ [byteAt ⟨#[48, 49, 50, 51, 52, 53, 54, 55, 56, 57, 97, 98, 99, 100, 101, 102]⟩ ((byteAt b ((k : Int))).fdiv (2 ^ (min (4 : Int).toNat IntKind.u8.bits))), byteAt ⟨#[48, 49, 50, 51, 52, 53, 54, 55, 56, 57, 97, 98, 99, 100, 101, 102]⟩ (IntKind.u8.wrap (BitVec.ofInt IntKind.u8.bits (byteAt b ((k : Int))) &&& BitVec.ofInt IntKind.u8.bits 15).toNat)]) from (List.flatMap_append (xs := xs) (ys := [byteAt ⟨#[48, 49, 50, 51, 52, 53, 54, 55, 56, 57, 97, 98, 99, 100, 101, 102]⟩ ((byteAt b ((k : Int))).fdiv (2 ^ (min (4 : Int).toNat IntKind.u8.bits))), byteAt ⟨#[48, 49, 50, 51, 52, 53, 54, 55, 56, 57, 97, 98, 99, 100, 101, 102]⟩ (IntKind.u8.wrap (BitVec.ofInt IntKind.u8.bits (byteAt b ((k : Int))) &&& BitVec.ofInt IntKind.u8.bits 15).toNat)])).symm)] at hp30
      refine ⟨.inr trivial, ?_⟩
      refine HOPS.take 1 {} [] [0, 3, 8, 9] [.string b, .slice a27 (no + 2) c28, .int .i64 (b.size : Int), .int .i64 (k : Int)] (by kernel_rfl) trivial (fun w33 hS34 => QB.mk .nil (by kernel_rfl)) (fun b35 => ?_)
      refine HOPS.nil ?_
      refine blk_n ?_
      refine thn_n ?_
      refine WP.pure {} [] [0, 3, 8, 9] [.string b, .slice a27 (no + 2) c28, .int .i64 (b.size : Int), .int .i64 ((k : Int) + 1)] (.cons (show Rng .i64 ((k : Int) + 1) from Rng.i64 (by omega)) .nil) (by kernel_rfl) (fun b36 => ?_)
      refine thn_n ?_
      exact ⟨b.size - (k + 1), (by omega), k + 1, xs ++ [byteAt ⟨#[48, 49, 50, 51, 52, 53, 54, 55, 56, 57, 97, 98, 99, 100, 101, 102]⟩ ((byteAt b ((k : Int))).fdiv (2 ^ (min (4 : Int).toNat IntKind.u8.bits))), byteAt ⟨#[48, 49, 50, 51, 52, 53, 54, 55, 56, 57, 97, 98, 99, 100, 101, 102]⟩ (IntKind.u8.wrap (BitVec.ofInt IntKind.u8.bits (byteAt b ((k : Int))) &&& BitVec.ofInt IntKind.u8.bits 15).toNat)], a27, no + 2, c28, rfl, ⟨by omega, hex_step (by omega) pb nh nl⟩, by kernel_rfl, (hp30.sub (.cons _ (.cons_cons _ (.slnil))))⟩
    · refine WP.exit ?_
      refine thn_x ?_
      refine thn_x ?_
      refine blk_hit ?_
      refine thn_n ?_
      refine WP.seq ?_
      refine WP.pure {} [.string (strOf xs)] [2] [.string (strOf xs)] (.cons (show Bs Tryd.prog w9 (.slice ao no co) (.string (strOf xs)) from Bs.of (SlR.own hp10.get0) (own_flat (sz := 1) (fun _ => rfl) (by decide) hp10.get0)) .nil) (by kernel_rfl) (fun b37 => ?_)
      refine thn_n ?_
      refine WP.ret ?_
      refine bodyQ.of _ rfl [.string (strOf xs)] ⟨rfl, trivial⟩ ?_
      obtain rfl : k = b.size := by omega
      rw [List.take_of_length_le (by rw [← size_list]; exact Nat.le_refl _)] at pb
      exact ⟨by simp only [pack]; unfold hexT; rw [if_neg (fun q => h3 (ba_ext q)), ← pb, mk_list], hp10.fr⟩

end Go.Proofs.YtbpedjefoajegaaDoor.K
