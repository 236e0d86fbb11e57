/- slices.Sort of ints and maps.Clone, by the kit's contracts; the numbers are this program's. -/
import Derived.Shelf.Sort.Plain
import Derived.Shelf.Slices.In.SortNone
import Derived.Shelf.SlMaps.Clone
import Derived.Test.YtgpjpcemfaignaaProg
import Derived.Test.YtgpjpcemfaignaaSortQ
import Derived.Test.YtgpjpcemfaignaaPhP
namespace Go.Proofs.Ytgpjpcemfaignaa.K
open Go Go.Proofs Go.RowKit Go.Shelf Go.Sort
set_option linter.unusedVariables false
def soRen : Go.Shelf.Ren := ⟨fun | 189 => 118 | 125 => 127 | 257 => 126 | 128 => 149 | 129 => 150 | 294 => 140 | 295 => 141 | 296 => 142 | 297 => 143 | 298 => 144 | 299 => 145 | 216 => 146 | 300 => 147 | 301 => 148 | 328 => 152 | 329 => 153 | 330 => 154 | 331 => 155 | 332 => 156 | 215 => 114 | 343 => 158 | n => n,
  fun | 28 => 24 | 3 => 3 | 46 => 135 | 0 => 0 | 51 => 129 | 53 => 85 | 4 => 4 | 183 => 175 | 182 => 174 | 131 => 100 | 5 => 5 | 9 => 9 | 218 => 181 | 222 => 185 | 228 => 187 | 229 => 188 | n => n,
  fun | _ => 0⟩
theorem soLay : Lays.n189 Try.prog soRen := {
  mixed := (by kernel_rfl),
  f125 := Try.func127.trans (congrArg some (by kernel_rfl)),
  f128 := Try.func149.trans (congrArg some (by kernel_rfl)),
  f129 := Try.func150.trans (congrArg some (by kernel_rfl)),
  f189 := Try.func118.trans (congrArg some (by kernel_rfl)),
  f215 := Try.func114.trans (congrArg some (by kernel_rfl)),
  f216 := Try.func146.trans (congrArg some (by kernel_rfl)),
  f257 := Try.func126.trans (congrArg some (by kernel_rfl)),
  f294 := Try.func140.trans (congrArg some (by kernel_rfl)),
  f295 := Try.func141.trans (congrArg some (by kernel_rfl)),
  f296 := Try.func142.trans (congrArg some (by kernel_rfl)),
  f297 := Try.func143.trans (congrArg some (by kernel_rfl)),
  f298 := Try.func144.trans (congrArg some (by kernel_rfl)),
  f299 := Try.func145.trans (congrArg some (by kernel_rfl)),
  f300 := Try.func147.trans (congrArg some (by kernel_rfl)),
  f301 := Try.func148.trans (congrArg some (by kernel_rfl)),
  f328 := Try.func152.trans (congrArg some (by kernel_rfl)),
  f329 := Try.func153.trans (congrArg some (by kernel_rfl)),
  f330 := Try.func154.trans (congrArg some (by kernel_rfl)),
  f331 := Try.func155.trans (congrArg some (by kernel_rfl)),
  f332 := Try.func156.trans (congrArg some (by kernel_rfl)),
  f343 := Try.func158.trans (congrArg some (by kernel_rfl)),
  t0 := Try.underlying0,
  a0 := Try.isAgg0,
  z0 := Try.sizeOf0,
  v0 := Try.zeroValue0,
  t3 := Try.underlying3,
  a3 := Try.isAgg3,
  z3 := Try.sizeOf3,
  v3 := Try.zeroValue3,
  t4 := Try.underlying4,
  a4 := Try.isAgg4,
  z4 := Try.sizeOf4,
  v4 := Try.zeroValue4,
  t5 := Try.underlying5,
  a5 := Try.isAgg5,
  z5 := Try.sizeOf5,
  v5 := Try.zeroValue5,
  t9 := Try.underlying9,
  a9 := Try.isAgg9,
  z9 := Try.sizeOf9,
  v9 := Try.zeroValue9,
  t28 := Try.underlying24,
  a28 := Try.isAgg24,
  z28 := Try.sizeOf24,
  v28 := Try.zeroValue24,
  t46 := Try.underlying135,
  a46 := Try.isAgg135,
  z46 := Try.sizeOf135,
  v46 := Try.zeroValue135,
  t51 := Try.underlying129,
  a51 := Try.isAgg129,
  z51 := Try.sizeOf129,
  v51 := Try.zeroValue129,
  t53 := Try.underlying85,
  a53 := Try.isAgg85,
  z53 := Try.sizeOf85,
  v53 := Try.zeroValue85,
  t131 := Try.underlying100,
  a131 := Try.isAgg100,
  z131 := Try.sizeOf100,
  v131 := Try.zeroValue100,
  t182 := Try.underlying174,
  a182 := Try.isAgg174,
  z182 := Try.sizeOf174,
  v182 := Try.zeroValue174,
  t183 := Try.underlying175,
  a183 := Try.isAgg175,
  z183 := Try.sizeOf175,
  v183 := Try.zeroValue175,
  t218 := Try.underlying181,
  a218 := Try.isAgg181,
  z218 := Try.sizeOf181,
  v218 := Try.zeroValue181,
  t222 := Try.underlying185,
  a222 := Try.isAgg185,
  z222 := Try.sizeOf185,
  v222 := Try.zeroValue185,
  t228 := Try.underlying187,
  a228 := Try.isAgg187,
  z228 := Try.sizeOf187,
  v228 := Try.zeroValue187,
  t229 := Try.underlying188,
  a229 := Try.isAgg188,
  z229 := Try.sizeOf188,
  v229 := Try.zeroValue188 }
def clRen : Go.Shelf.Ren := ⟨fun | 5 => 119 | 7 => 128 | n => n,
  fun | 23 => 96 | 25 => 3 | 3 => 3 | 4 => 4 | 20 => 20 | n => n,
  fun | _ => 0⟩
theorem clLay : SlLaysW.n5 Try.prog clRen := {
  mixed := (by kernel_rfl),
  f5 := ⟨"maps.Clone[map[int]int,int,int]", of_decide_eq_true (by kernel_rfl), Try.func119.trans (congrArg some (by kernel_rfl))⟩,
  f7 := Try.func128.trans (congrArg some (by kernel_rfl)),
  t4 := Try.underlying4,
  a4 := Try.isAgg4,
  z4 := Try.sizeOf4,
  v4 := Try.zeroValue4,
  t20 := Try.underlying20,
  a20 := Try.isAgg20,
  z20 := Try.sizeOf20,
  v20 := Try.zeroValue20,
  t23 := Try.underlying96,
  a23 := Try.isAgg96,
  z23 := Try.sizeOf96,
  v23 := Try.zeroValue96 }
theorem sort_own {w0 w : World} {L : List Res} {a : Option Addr} {n c : Nat} {l : List Int} (hb : l.length ≤ 1000000) (hp : Hp w0 Non (Res.own 3 1 (.slice a n c) n (List.flatMap (fun (y : Int) => [Go.Value.int .i64 y]) l) :: L) w) :
    Calls Try.prog 118 #[.slice a n c] w (fun x w' => x = .returned (.tuple #[]) ∧ Hp w0 Non (Res.own 3 1 (.slice a n c) n (List.flatMap (fun (y : Int) => [Go.Value.int .i64 y]) (l.mergeSort fun x y => decide (x ≤ y))) :: L) w') := by
  have hl : l.length = n := own_flat (sz := 1) (fun _ => rfl) (by decide) hp.get0
  by_cases h0 : n = 0
  · subst h0
    obtain rfl : l = [] := List.eq_nil_of_length_eq_zero hl
    refine (Any.slices_Sort_int_none soLay a c w).mono ?_
    rintro x w' ⟨rfl, rfl⟩
    exact ⟨rfl, by rw [List.mergeSort_nil]; exact hp⟩
  · obtain ⟨g, rfl, hH, hg, _⟩ := own_holds (enc := Value.int .i64) hp.get0 (by omega)
    have hc := Any.slices_Sort_int soLay g 0 c l w hH hg (by omega)
    rw [hl] at hc
    refine hc.mono ?_
    rintro x w' ⟨rfl, k, os, rfl⟩
    obtain ⟨h1, h2⟩ := own_sorted (enc := Value.int .i64) (l' := l.mergeSort fun x y => decide (x ≤ y)) (k := k) (os := os) hp.get0 (List.length_mergeSort _)
    exact ⟨rfl, Hp.mod (A := []) hp (h2.mono fun b _ hb => by subst hb; rfl) _ h1 fun b hb => ⟨Nat.lt_of_lt_of_le (hp.lt0 b hb) h2.size, .inl hb⟩⟩
theorem clone_mp {w0 w : World} {L : List Res} {b : Nat} {κ ν : Type} [DecidableEq κ] {kf : κ → Go.Value} {vf : ν → Go.Value} {l : List (κ × ν)} (hp : Hp w0 Non (Res.mp b kf vf l :: L) w) :
    Calls Try.prog 119 #[.map (some b)] w (fun x w' => ∃ b2, x = .returned (.map (some b2)) ∧ Hp w0 Non (Res.mp b2 kf vf l :: Res.mp b kf vf l :: L) w') := by
  obtain ⟨es, c, hb, he, hbn⟩ := hp.get0
  refine (AnyW.maps_Clone clLay b es c w hb).mono ?_
  rintro x w' ⟨rfl, rfl⟩
  refine ⟨_, rfl, hp.new (Fram.alloc _ w _) _ ⟨es, c, (MapKept.heap_alloc w (.map es c)).1, he, hbn⟩ fun k hk => ?_⟩
  rw [show k = w.heap.size from hk]
  exact ⟨Nat.le_refl _, by simp⟩
end Go.Proofs.Ytgpjpcemfaignaa.K
