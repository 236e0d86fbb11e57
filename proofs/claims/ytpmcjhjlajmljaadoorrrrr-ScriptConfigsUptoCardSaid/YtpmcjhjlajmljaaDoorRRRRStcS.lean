/- strings.Split and strconv.Atoi by the kit's contracts. -/
import Derived.Shelf.Strings.Split
import Derived.Test.YtpmcjhjlajmljaaDoorRRRRStc
import Derived.Test.YtpmcjhjlajmljaaDoorRRRRCfgL
namespace Go.Proofs.YtpmcjhjlajmljaaDoorRRRR.K
open Go Go.Proofs Go.RowKit Go.Shelf
set_option linter.unusedVariables false
def rS : Go.Shelf.Ren := ⟨fun | 146 => 44 | 221 => 62 | 268 => 79 | 138 => 80 | 143 => 81 | 195 => 98 | 197 => 99 | 218 => 100 | 219 => 73 | 260 => 107 | 217 => 90 | 225 => 91 | 224 => 92 | 267 => 93 | 266 => 105 | 314 => 106 | n => n,
  fun | 9 => 9 | 31 => 59 | 3 => 3 | 4 => 4 | 0 => 0 | 105 => 135 | 21 => 21 | 5 => 5 | 46 => 112 | 119 => 146 | 139 => 149 | 138 => 148 | 146 => 138 | 51 => 125 | n => n,
  fun | 1 => 2 | 3 => 7 | 4 => 8 | n => n⟩
theorem lS : Lays.n146 Tryd.prog rS := {
  mixed := (by kernel_rfl),
  f138 := Tryd.func80.trans (congrArg some (by kernel_rfl)),
  f143 := Tryd.func81.trans (congrArg some (by kernel_rfl)),
  f146 := Tryd.func44.trans (congrArg some (by kernel_rfl)),
  f195 := Tryd.func98.trans (congrArg some (by kernel_rfl)),
  f197 := Tryd.func99.trans (congrArg some (by kernel_rfl)),
  f217 := Tryd.func90.trans (congrArg some (by kernel_rfl)),
  f218 := Tryd.func100.trans (congrArg some (by kernel_rfl)),
  f219 := Tryd.func73.trans (congrArg some (by kernel_rfl)),
  f221 := Tryd.func62.trans (congrArg some (by kernel_rfl)),
  f224 := Tryd.func92.trans (congrArg some (by kernel_rfl)),
  f225 := Tryd.func91.trans (congrArg some (by kernel_rfl)),
  f260 := Tryd.func107.trans (congrArg some (by kernel_rfl)),
  f266 := Tryd.func105.trans (congrArg some (by kernel_rfl)),
  f267 := Tryd.func93.trans (congrArg some (by kernel_rfl)),
  f268 := Tryd.func79.trans (congrArg some (by kernel_rfl)),
  f314 := Tryd.func106.trans (congrArg some (by kernel_rfl)),
  t0 := Tryd.underlying0,
  a0 := Tryd.isAgg0,
  z0 := Tryd.sizeOf0,
  v0 := Tryd.zeroValue0,
  t3 := Tryd.underlying3,
  a3 := Tryd.isAgg3,
  z3 := Tryd.sizeOf3,
  v3 := Tryd.zeroValue3,
  t4 := Tryd.underlying4,
  a4 := Tryd.isAgg4,
  z4 := Tryd.sizeOf4,
  v4 := Tryd.zeroValue4,
  t5 := Tryd.underlying5,
  a5 := Tryd.isAgg5,
  z5 := Tryd.sizeOf5,
  v5 := Tryd.zeroValue5,
  t9 := Tryd.underlying9,
  a9 := Tryd.isAgg9,
  z9 := Tryd.sizeOf9,
  v9 := Tryd.zeroValue9,
  t21 := Tryd.underlying21,
  a21 := Tryd.isAgg21,
  z21 := Tryd.sizeOf21,
  v21 := Tryd.zeroValue21,
  t31 := Tryd.underlying59,
  a31 := Tryd.isAgg59,
  z31 := Tryd.sizeOf59,
  v31 := Tryd.zeroValue59,
  t46 := Tryd.underlying112,
  a46 := Tryd.isAgg112,
  z46 := Tryd.sizeOf112,
  v46 := Tryd.zeroValue112,
  t51 := Tryd.underlying125,
  a51 := Tryd.isAgg125,
  z51 := Tryd.sizeOf125,
  v51 := Tryd.zeroValue125,
  t105 := Tryd.underlying135,
  a105 := Tryd.isAgg135,
  z105 := Tryd.sizeOf135,
  v105 := Tryd.zeroValue135,
  t119 := Tryd.underlying146,
  a119 := Tryd.isAgg146,
  z119 := Tryd.sizeOf146,
  t138 := Tryd.underlying148,
  a138 := Tryd.isAgg148,
  z138 := Tryd.sizeOf148,
  v138 := Tryd.zeroValue148,
  t139 := Tryd.underlying149,
  a139 := Tryd.isAgg149,
  z139 := Tryd.sizeOf149,
  v139 := Tryd.zeroValue149,
  t146 := Tryd.underlying138,
  a146 := Tryd.isAgg138,
  z146 := Tryd.sizeOf138,
  v146 := Tryd.zeroValue138,
  g1 := (by kernel_rfl),
  g3 := (by kernel_rfl),
  g4 := (by kernel_rfl) }
theorem split_c {w0 w : World} {L : List Res} (s : ByteArray) (hs : s.size ≤ 4294967280) (hl : LibP w) (hp : Hp w0 Non L w) : Calls Tryd.prog 44 #[.string s, .string ⟨#[32]⟩] w (fun x w' => ∃ b n, x = .returned (.slice (some ⟨b, 0, none⟩) n n) ∧ Hp w0 Non (Res.lst b ⟨some ⟨b, 0, none⟩, n, n⟩ (wordsB s) :: L) w') := by
  obtain ⟨v, h1, m, rfl⟩ := hl.mx
  refine (Any.strings_Split lS (by kernel_rfl) s ⟨#[32]⟩ m w (by omega) h1 (by decide)).mono ?_
  rintro e w' ⟨rfl, rfl⟩
  have hlen := Lib.splitB_all ⟨#[32]⟩ (by decide) 0 _ s rfl
  have hle := Lib.countB_le ⟨#[32]⟩ (by decide) s.size s (Nat.le_refl _)
  refine ⟨_, _, rfl, hp.new (Fram.alloc _ w _) _ (lst_row (MapKept.heap_alloc w _).1 hlen (by omega)) fun k hk => ?_⟩
  rw [show k = w.heap.size from hk]
  exact ⟨Nat.le_refl _, by simp⟩
theorem atoi_b (s : ByteArray) (hs : s.size ≤ 281474976710656) (w : World) (hl : LibP w) : Calls Tryd.prog 37 #[.string s] w (fun x w' => ∃ v er, x = .returned (.tuple #[.int .i64 v, er]) ∧ inI v ∧ ((er = .nilIface ∧ Lib.atoiAll s.data.toList = .ok v) ∨ ((∃ t g, er = .iface t (.pointer (some ⟨g, 0, none⟩))) ∧ ∀ u, Lib.atoiAll s.data.toList ≠ .ok u)) ∧ Fram Non w w') := by
  obtain ⟨e1, h1, k1⟩ := hl.syn
  obtain ⟨e2, h2, k2⟩ := hl.rng
  by_cases hok : ∃ v, Lib.atoiAll s.data.toList = .ok v
  · obtain ⟨v, hr⟩ := hok
    refine (Any.strconv_Atoi_ok lA s (by omega) v hr w).mono ?_
    rintro e w' ⟨rfl, hw⟩
    exact ⟨v, _, rfl, Lib.atoiAll_bounds hr, .inl ⟨rfl, hr⟩, fram_bytes hw⟩
  · by_cases hrg : Lib.atoiAll s.data.toList = .range
    · refine (Any.strconv_Atoi_range lA s hs hrg e2 w h2 k2).mono ?_
      rintro e w' ⟨N, rfl, _, _, hb⟩
      exact ⟨_, _, rfl, Lib.atoiSat_bounds _, .inr ⟨⟨_, _, rfl⟩, fun u hu => hok ⟨u, hu⟩⟩, Fram.of_below hb⟩
    · refine (Any.strconv_Atoi_syntax lA s hs (by
        cases hx : Lib.atoiAll s.data.toList
        · exact absurd ⟨_, hx⟩ hok
        · rfl
        · exact absurd hx hrg) e1 w h1 k1).mono ?_
      rintro e w' ⟨N, rfl, _, _, hb⟩
      exact ⟨_, _, rfl, ⟨by decide, by decide⟩, .inr ⟨⟨_, _, rfl⟩, fun u hu => hok ⟨u, hu⟩⟩, Fram.of_below hb⟩
end Go.Proofs.YtpmcjhjlajmljaaDoorRRRR.K
