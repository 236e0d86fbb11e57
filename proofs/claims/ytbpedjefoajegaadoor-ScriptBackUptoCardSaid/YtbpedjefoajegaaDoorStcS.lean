/- The library's functions on texts, by the kit's contracts; the numbers are this program's. -/
import Derived.Shelf.Strings.Split
import Derived.Shelf.Small.Strs
import Derived.Shelf.Strings.OnBuilder
import Derived.Test.YtbpedjefoajegaaDoorStc
import Derived.Test.YtbpedjefoajegaaDoorScrL
import Derived.Test.YtbpedjefoajegaaDoorCoreJ
import Derived.Test.YtbpedjefoajegaaDoorCoreG
namespace Go.Proofs.YtbpedjefoajegaaDoor.K
open Go Go.Proofs Go.RowKit Go.Shelf
set_option linter.unusedVariables false
def rS : Go.Shelf.Ren := ⟨fun | 146 => 39 | 221 => 53 | 268 => 60 | 138 => 61 | 143 => 62 | 195 => 71 | 197 => 72 | 218 => 73 | 219 => 74 | 260 => 86 | 217 => 80 | 225 => 87 | 224 => 88 | 267 => 89 | 266 => 93 | 314 => 96 | n => n,
  fun | 9 => 9 | 31 => 36 | 3 => 3 | 4 => 4 | 0 => 0 | 105 => 105 | 21 => 21 | 5 => 5 | 46 => 84 | 119 => 125 | 139 => 128 | 138 => 127 | 146 => 129 | 51 => 116 | n => n,
  fun | 1 => 3 | 3 => 6 | 4 => 7 | n => n⟩
theorem lS : Lays.n146 Tryd.prog rS := {
  mixed := (by kernel_rfl),
  f138 := Tryd.func61.trans (congrArg some (by kernel_rfl)),
  f143 := Tryd.func62.trans (congrArg some (by kernel_rfl)),
  f146 := Tryd.func39.trans (congrArg some (by kernel_rfl)),
  f195 := Tryd.func71.trans (congrArg some (by kernel_rfl)),
  f197 := Tryd.func72.trans (congrArg some (by kernel_rfl)),
  f217 := Tryd.func80.trans (congrArg some (by kernel_rfl)),
  f218 := Tryd.func73.trans (congrArg some (by kernel_rfl)),
  f219 := Tryd.func74.trans (congrArg some (by kernel_rfl)),
  f221 := Tryd.func53.trans (congrArg some (by kernel_rfl)),
  f224 := Tryd.func88.trans (congrArg some (by kernel_rfl)),
  f225 := Tryd.func87.trans (congrArg some (by kernel_rfl)),
  f260 := Tryd.func86.trans (congrArg some (by kernel_rfl)),
  f266 := Tryd.func93.trans (congrArg some (by kernel_rfl)),
  f267 := Tryd.func89.trans (congrArg some (by kernel_rfl)),
  f268 := Tryd.func60.trans (congrArg some (by kernel_rfl)),
  f314 := Tryd.func96.trans (congrArg some (by kernel_rfl)),
  t0 := Tryd.underlying0,
  a0 := Tryd.isAgg0,
  z0 := Tryd.sizeOf0,
  v0 := Tryd.zeroValue0,
  t3 := Tryd.underlying3,
  a3 := Tryd.isAgg3,
  z3 := Tryd.sizeOf3,
  v3 := Tryd.zeroValue3,
  t4 := Tryd.underlying4,
  a4 := Tryd.isAgg4,
  z4 := Tryd.sizeOf4,
  v4 := Tryd.zeroValue4,
  t5 := Tryd.underlying5,
  a5 := Tryd.isAgg5,
  z5 := Tryd.sizeOf5,
  v5 := Tryd.zeroValue5,
  t9 := Tryd.underlying9,
  a9 := Tryd.isAgg9,
  z9 := Tryd.sizeOf9,
  v9 := Tryd.zeroValue9,
  t21 := Tryd.underlying21,
  a21 := Tryd.isAgg21,
  z21 := Tryd.sizeOf21,
  v21 := Tryd.zeroValue21,
  t31 := Tryd.underlying36,
  a31 := Tryd.isAgg36,
  z31 := Tryd.sizeOf36,
  v31 := Tryd.zeroValue36,
  t46 := Tryd.underlying84,
  a46 := Tryd.isAgg84,
  z46 := Tryd.sizeOf84,
  v46 := Tryd.zeroValue84,
  t51 := Tryd.underlying116,
  a51 := Tryd.isAgg116,
  z51 := Tryd.sizeOf116,
  v51 := Tryd.zeroValue116,
  t105 := Tryd.underlying105,
  a105 := Tryd.isAgg105,
  z105 := Tryd.sizeOf105,
  v105 := Tryd.zeroValue105,
  t119 := Tryd.underlying125,
  a119 := Tryd.isAgg125,
  z119 := Tryd.sizeOf125,
  t138 := Tryd.underlying127,
  a138 := Tryd.isAgg127,
  z138 := Tryd.sizeOf127,
  v138 := Tryd.zeroValue127,
  t139 := Tryd.underlying128,
  a139 := Tryd.isAgg128,
  z139 := Tryd.sizeOf128,
  v139 := Tryd.zeroValue128,
  t146 := Tryd.underlying129,
  a146 := Tryd.isAgg129,
  z146 := Tryd.sizeOf129,
  v146 := Tryd.zeroValue129,
  g1 := (by kernel_rfl),
  g3 := (by kernel_rfl),
  g4 := (by kernel_rfl) }
def rX : Go.Shelf.Ren := ⟨fun | 137 => 65 | 217 => 80 | 266 => 93 | n => n,
  fun | 9 => 9 | 5 => 5 | 3 => 3 | n => n,
  fun | _ => 0⟩
theorem lX : Lays.n137 Tryd.prog rX := {
  mixed := (by kernel_rfl),
  f137 := Tryd.func65.trans (congrArg some (by kernel_rfl)),
  f217 := Tryd.func80.trans (congrArg some (by kernel_rfl)),
  f266 := Tryd.func93.trans (congrArg some (by kernel_rfl)),
  t3 := Tryd.underlying3,
  a3 := Tryd.isAgg3,
  z3 := Tryd.sizeOf3,
  v3 := Tryd.zeroValue3,
  t5 := Tryd.underlying5,
  a5 := Tryd.isAgg5,
  z5 := Tryd.sizeOf5,
  v5 := Tryd.zeroValue5,
  t9 := Tryd.underlying9,
  a9 := Tryd.isAgg9,
  z9 := Tryd.sizeOf9,
  v9 := Tryd.zeroValue9 }
def rJ : Go.Shelf.Ren := ⟨fun | 167 => 22 | 156 => 30 | 165 => 51 | 166 => 21 | 169 => 23 | 240 => 45 | 241 => 58 | 276 => 55 | 277 => 70 | n => n,
  fun | 31 => 36 | 9 => 9 | 3 => 3 | 4 => 4 | 0 => 0 | 20 => 20 | 72 => 48 | 76 => 51 | 70 => 46 | 37 => 28 | 75 => 50 | 127 => 79 | 164 => 89 | 5 => 5 | 80 => 54 | n => n,
  fun | _ => 0⟩
theorem lJ : Lays.n156 Tryd.prog rJ := {
  mixed := (by kernel_rfl),
  f156 := Tryd.func30.trans (congrArg some (by kernel_rfl)),
  f165 := Tryd.func51.trans (congrArg some (by kernel_rfl)),
  f166 := Tryd.func21.trans (congrArg some (by kernel_rfl)),
  f169 := Tryd.func23.trans (congrArg some (by kernel_rfl)),
  f240 := Tryd.func45.trans (congrArg some (by kernel_rfl)),
  f241 := Tryd.func58.trans (congrArg some (by kernel_rfl)),
  f276 := Tryd.func55.trans (congrArg some (by kernel_rfl)),
  f277 := Tryd.func70.trans (congrArg some (by kernel_rfl)),
  t0 := Tryd.underlying0,
  a0 := Tryd.isAgg0,
  z0 := Tryd.sizeOf0,
  v0 := Tryd.zeroValue0,
  t3 := Tryd.underlying3,
  a3 := Tryd.isAgg3,
  z3 := Tryd.sizeOf3,
  v3 := Tryd.zeroValue3,
  t4 := Tryd.underlying4,
  a4 := Tryd.isAgg4,
  z4 := Tryd.sizeOf4,
  v4 := Tryd.zeroValue4,
  t9 := Tryd.underlying9,
  a9 := Tryd.isAgg9,
  z9 := Tryd.sizeOf9,
  v9 := Tryd.zeroValue9,
  t20 := Tryd.underlying20,
  a20 := Tryd.isAgg20,
  z20 := Tryd.sizeOf20,
  v20 := Tryd.zeroValue20,
  t31 := Tryd.underlying36,
  a31 := Tryd.isAgg36,
  z31 := Tryd.sizeOf36,
  v31 := Tryd.zeroValue36,
  t37 := Tryd.underlying28,
  a37 := Tryd.isAgg28,
  z37 := Tryd.sizeOf28,
  v37 := Tryd.zeroValue28,
  t70 := Tryd.underlying46,
  a70 := Tryd.isAgg46,
  z70 := Tryd.sizeOf46,
  v70 := Tryd.zeroValue46,
  t72 := Tryd.underlying48,
  a72 := Tryd.isAgg48,
  z72 := Tryd.sizeOf48,
  v72 := Tryd.zeroValue48,
  t75 := Tryd.underlying50,
  a75 := Tryd.isAgg50,
  z75 := Tryd.sizeOf50,
  v75 := Tryd.zeroValue50,
  t76 := Tryd.underlying51,
  a76 := Tryd.isAgg51,
  z76 := Tryd.sizeOf51,
  v76 := Tryd.zeroValue51,
  t127 := Tryd.underlying79,
  a127 := Tryd.isAgg79,
  z127 := Tryd.sizeOf79,
  v127 := Tryd.zeroValue79,
  t164 := Tryd.underlying89,
  a164 := Tryd.isAgg89,
  z164 := Tryd.sizeOf89,
  v164 := Tryd.zeroValue89 }
theorem xJ : Builder.Extra Tryd.prog rJ where
  sizeBuilder := by kernel_rfl
  liesBuilder := by kernel_rfl
  t5 := Tryd.underlying5
  a5 := Tryd.isAgg5
  z5 := Tryd.sizeOf5
  v5 := Tryd.zeroValue5
  infoByte := by kernel_rfl
  cellsByte := by kernel_rfl
  sizeByte := by kernel_rfl
  neB5 := by decide
theorem lW : Lays.n166 Tryd.prog rJ := { lJ with }
abbrev xW := xJ
theorem lT : Lays.n169 Tryd.prog rJ := { lJ with }
abbrev xT := xJ
theorem lB : Lays.n167 Tryd.prog rJ := { lJ with f167 := Tryd.func22.trans (congrArg some (by kernel_rfl)), t5 := xJ.t5, a5 := xJ.a5, z5 := xJ.z5, v5 := xJ.v5 }
abbrev xB := xJ
theorem split_c {w0 w : World} {L : List Res} (s : ByteArray) (hs : s.size ≤ 4294967280) (hl : LibP w) (hp : Hp w0 Non L w) : Calls Tryd.prog 39 #[.string s, .string ⟨#[32]⟩] w (fun x w' => ∃ b n, x = .returned (.slice (some ⟨b, 0, none⟩) n n) ∧ Hp w0 Non (Res.lst b ⟨some ⟨b, 0, none⟩, n, n⟩ (wordsB s) :: L) w') := by
  obtain ⟨v, h1, m, rfl⟩ := hl.mx
  refine (Any.strings_Split lS (by kernel_rfl) s ⟨#[32]⟩ m w (by omega) h1 (by decide)).mono ?_
  rintro e w' ⟨rfl, rfl⟩
  have hlen := Lib.splitB_all ⟨#[32]⟩ (by decide) 0 _ s rfl
  have hle := Lib.countB_le ⟨#[32]⟩ (by decide) s.size s (Nat.le_refl _)
  refine ⟨_, _, rfl, hp.new (Fram.alloc _ w _) _ (lst_row (MapKept.heap_alloc w _).1 hlen (by omega)) fun k hk => ?_⟩
  rw [show k = w.heap.size from hk]
  exact ⟨Nat.le_refl _, by simp⟩
theorem atoi_b (s : ByteArray) (hs : s.size ≤ 281474976710656) (w : World) (hl : LibP w) : Calls Tryd.prog 54 #[.string s] w (fun x w' => ∃ v er, x = .returned (.tuple #[.int .i64 v, er]) ∧ inI v ∧ ((er = .nilIface ∧ Lib.atoiAll s.data.toList = .ok v) ∨ ((∃ t g, er = .iface t (.pointer (some ⟨g, 0, none⟩))) ∧ ∀ u, Lib.atoiAll s.data.toList ≠ .ok u)) ∧ Fram Non w w') := by
  obtain ⟨e1, h1, k1⟩ := hl.syn
  obtain ⟨e2, h2, k2⟩ := hl.rng
  by_cases hok : ∃ v, Lib.atoiAll s.data.toList = .ok v
  · obtain ⟨v, hr⟩ := hok
    refine (Any.strconv_Atoi_ok lA s (by omega) v hr w).mono ?_
    rintro e w' ⟨rfl, hw⟩
    exact ⟨v, _, rfl, Lib.atoiAll_bounds hr, .inl ⟨rfl, hr⟩, fram_bytes hw⟩
  · by_cases hrg : Lib.atoiAll s.data.toList = .range
    · refine (Any.strconv_Atoi_range lA s hs hrg e2 w h2 k2).mono ?_
      rintro e w' ⟨N, rfl, _, _, hb⟩
      exact ⟨_, _, rfl, Lib.atoiSat_bounds _, .inr ⟨⟨_, _, rfl⟩, fun u hu => hok ⟨u, hu⟩⟩, Fram.of_below hb⟩
    · refine (Any.strconv_Atoi_syntax lA s hs (by
        cases hx : Lib.atoiAll s.data.toList
        · exact absurd ⟨_, hx⟩ hok
        · rfl
        · exact absurd hx hrg) e1 w h1 k1).mono ?_
      rintro e w' ⟨N, rfl, _, _, hb⟩
      exact ⟨_, _, rfl, ⟨by decide, by decide⟩, .inr ⟨⟨_, _, rfl⟩, fun u hu => hok ⟨u, hu⟩⟩, Fram.of_below hb⟩
theorem ixb_c (s : ByteArray) (c : Int) (w : World) : Calls Tryd.prog 65 #[.string s, .int .u8 c] w (fun x w' => x = .returned (.int .i64 (Lib.indexByte s.data.toList c.toNat.toUInt8)) ∧ Fram Non w w') :=
  (Any.strings_IndexByte lX s c w).mono fun e w' ⟨h1, h2⟩ => ⟨h1, h2 ▸ Fram.refl _ _⟩
theorem join_c {w0 w : World} {L : List Res} {a : Option Addr} {n c : Nat} {ws : List ByteArray} (h0 : 0 < n) (hn : n ≤ 140737488355328) (hb : (joinB ws).size ≤ 140737488355328) (hp : Hp w0 Non (Res.own 9 1 (.slice a n c) n (List.flatMap strc ws) :: L) w) : Calls Tryd.prog 30 #[.slice a n c, .string ⟨#[32]⟩] w (fun x w' => x = .returned (.string (joinB ws)) ∧ Fram Non w w') := by
  have hlen : ws.length = n := own_flat (sz := 1) (fun _ => rfl) (by decide) hp.get0
  have hcap := own_cap hp.get0
  have hrd := (SlR.own hp.get0)
  have hs := hrd.some h0
  rcases hp.get0.2 with ⟨q, _⟩ | ⟨g, cap, cur, hv, hg, hh, _⟩
  · simp at q; omega
  · simp at hv
    obtain ⟨rfl, _⟩ := hv
    subst hlen
    refine (Any.strings_Join lJ xJ g 0 c ws ⟨#[32]⟩ w (fun j x hj => ?_) (Array.getElem?_eq_some_iff.1 hh).1 hn hcap (by rw [show (Lib.join (ws.map (·.data.toList)) (⟨#[32]⟩ : ByteArray).data.toList).length = (joinB ws).size from by rw [size_list]; unfold joinB; rw [List.toList_toArray]]; exact hb)).mono ?_
    · have := hrd.rd j (.string x) (by rw [strc_map]; simp [hj])
      rwa [show (adr (some (⟨g, 0, none⟩ : Addr))).add j = ⟨g, 0 + j, none⟩ from add_mk g 0 j] at this
    · rintro e w' ⟨rfl, hw⟩
      exact ⟨rfl, Fram.of_below hw⟩
theorem bws_c {w0 w : World} {L : List Res} {b : Nat} {p v : Go.Value} {l : List UInt8} (s : ByteArray) (hlen : l.length + s.size ≤ 140737488355328) (hp : Hp w0 Non (Res.bld 48 5 b p v (Lib.byteCells l) :: L) w) : Calls Tryd.prog 21 #[.pointer (some ⟨b, 0, none⟩), .string s] w (fun x w' => ∃ p' v', x = .returned (.tuple #[.int .i64 s.size, .nilIface]) ∧ Hp w0 Non [Res.bld 48 5 b p' v' (Lib.byteCells (l ++ s.data.toList))] w') := by
  refine (Any.Builder_WriteString lW xW w0.heap.size b _ s w hp.isB (by simpa [Lib.byteCells] using hlen) hp.le0).mono ?_
  rintro e w' ⟨rfl, h1, h2⟩
  rw [Lib.strCells_eq, ← Lib.byteCells_append] at h1
  obtain ⟨v', h3⟩ := hp.ofB h1 h2
  exact ⟨_, v', rfl, h3⟩
theorem bwb_c {w0 w : World} {L : List Res} {b : Nat} {p v : Go.Value} {l : List UInt8} (c : Int) (hc : 0 ≤ c ∧ c ≤ 255) (hlen : l.length + 1 ≤ 140737488355328) (hp : Hp w0 Non (Res.bld 48 5 b p v (Lib.byteCells l) :: L) w) : Calls Tryd.prog 22 #[.pointer (some ⟨b, 0, none⟩), .int .u8 c] w (fun x w' => ∃ p' v', x = .returned .nilIface ∧ Hp w0 Non [Res.bld 48 5 b p' v' (Lib.byteCells (l ++ [UInt8.ofNat c.toNat]))] w') := by
  refine (Any.Builder_WriteByte lB xB w0.heap.size b _ c w hp.isB (by simpa [Lib.byteCells] using hlen) hp.le0).mono ?_
  rintro e w' ⟨rfl, h1, h2⟩
  rw [show Lib.byteCells l ++ [Go.Value.int .u8 c] = Lib.byteCells (l ++ [UInt8.ofNat c.toNat]) from by
    rw [Lib.byteCells_append]
    have : ((UInt8.ofNat c.toNat).toNat : Int) = c := by
      rw [UInt8.toNat_ofNat', Nat.mod_eq_of_lt (by omega)]; omega
    simp only [Lib.byteCells, List.map_cons, List.map_nil, this]] at h1
  obtain ⟨v', h3⟩ := hp.ofB h1 h2
  exact ⟨_, v', rfl, h3⟩
theorem bst_c {w0 w : World} {L : List Res} {b : Nat} {p v : Go.Value} {l : List UInt8} (hp : Hp w0 Non (Res.bld 48 5 b p v (Lib.byteCells l) :: L) w) : Calls Tryd.prog 23 #[.pointer (some ⟨b, 0, none⟩)] w (fun x w' => x = .returned (.string ⟨l.toArray⟩) ∧ Fram Non w0 w') := by
  refine (Any.Builder_String_any lT xT w0.heap.size b l w hp.isB hp.le0).mono ?_
  rintro e w' ⟨rfl, h2⟩
  exact ⟨rfl, Fram.of_below (hp.fr.below.trans h2)⟩
end Go.Proofs.YtbpedjefoajegaaDoor.K
