/- sort.SliceStable at a list of ints, whatever its length: a permutation that rises by the order made. -/
import Derived.Shelf.GgSortMore.Stable
import Derived.Test.YtdahgdkadfdkeaaProg
import Derived.Test.YtdahgdkadfdkeaaStbC
namespace Go.Proofs.Ytdahgdkadfdkeaa.K
open Go Go.Proofs Go.RowKit Go.Shelf Go.Sort Go.Lib
set_option linter.unusedVariables false
set_option maxRecDepth 20000
def stRen : Go.Shelf.Ren := ⟨fun | 8 => 109 | 13 => 121 | 14 => 122 | 16 => 124 | 15 => 123 | 29 => 138 | 30 => 139 | 42 => 151 | 49 => 157 | n => n,
  fun | 20 => 20 | 26 => 140 | 36 => 158 | 0 => 0 | 38 => 160 | 42 => 164 | 3 => 3 | 4 => 4 | 47 => 135 | 17 => 17 | 33 => 155 | 34 => 156 | 89 => 203 | 12 => 12 | 56 => 129 | 82 => 196 | 5 => 5 | 83 => 197 | 84 => 198 | 85 => 199 | 86 => 200 | 87 => 201 | n => n,
  fun | _ => 0⟩
theorem stLay : LaysGt.n8 Try.prog stRen := {
  mixed := (by kernel_rfl),
  f8 := Try.func109.trans (congrArg some (by kernel_rfl)),
  f13 := Try.func121.trans (congrArg some (by kernel_rfl)),
  f14 := Try.func122.trans (congrArg some (by kernel_rfl)),
  f15 := Try.func123.trans (congrArg some (by kernel_rfl)),
  f16 := Try.func124.trans (congrArg some (by kernel_rfl)),
  f29 := Try.func138.trans (congrArg some (by kernel_rfl)),
  f30 := Try.func139.trans (congrArg some (by kernel_rfl)),
  f42 := Try.func151.trans (congrArg some (by kernel_rfl)),
  f49 := Try.func157.trans (congrArg some (by kernel_rfl)),
  t0 := Try.underlying0,
  a0 := Try.isAgg0,
  z0 := Try.sizeOf0,
  v0 := Try.zeroValue0,
  i0 := (by kernel_rfl),
  t3 := Try.underlying3,
  a3 := Try.isAgg3,
  z3 := Try.sizeOf3,
  v3 := Try.zeroValue3,
  i3 := (by kernel_rfl),
  t4 := Try.underlying4,
  a4 := Try.isAgg4,
  z4 := Try.sizeOf4,
  v4 := Try.zeroValue4,
  i4 := (by kernel_rfl),
  t5 := Try.underlying5,
  a5 := Try.isAgg5,
  z5 := Try.sizeOf5,
  v5 := Try.zeroValue5,
  i5 := (by kernel_rfl),
  t12 := Try.underlying12,
  a12 := Try.isAgg12,
  z12 := Try.sizeOf12,
  v12 := Try.zeroValue12,
  i12 := (by kernel_rfl),
  t17 := Try.underlying17,
  a17 := Try.isAgg17,
  z17 := Try.sizeOf17,
  v17 := Try.zeroValue17,
  i17 := (by kernel_rfl),
  t20 := Try.underlying20,
  a20 := Try.isAgg20,
  z20 := Try.sizeOf20,
  v20 := Try.zeroValue20,
  i20 := (by kernel_rfl),
  t26 := Try.underlying140,
  a26 := Try.isAgg140,
  z26 := Try.sizeOf140,
  v26 := Try.zeroValue140,
  i26 := (by kernel_rfl),
  t33 := Try.underlying155,
  a33 := Try.isAgg155,
  z33 := Try.sizeOf155,
  v33 := Try.zeroValue155,
  i33 := (by kernel_rfl),
  t34 := Try.underlying156,
  a34 := Try.isAgg156,
  z34 := Try.sizeOf156,
  v34 := Try.zeroValue156,
  i34 := (by kernel_rfl),
  t36 := Try.underlying158,
  a36 := Try.isAgg158,
  z36 := Try.sizeOf158,
  v36 := Try.zeroValue158,
  i36 := (by kernel_rfl),
  t38 := Try.underlying160,
  a38 := Try.isAgg160,
  z38 := Try.sizeOf160,
  v38 := Try.zeroValue160,
  i38 := (by kernel_rfl),
  t42 := Try.underlying164,
  a42 := Try.isAgg164,
  z42 := Try.sizeOf164,
  v42 := Try.zeroValue164,
  i42 := (by kernel_rfl),
  t47 := Try.underlying135,
  a47 := Try.isAgg135,
  z47 := Try.sizeOf135,
  v47 := Try.zeroValue135,
  i47 := (by kernel_rfl),
  t56 := Try.underlying129,
  a56 := Try.isAgg129,
  z56 := Try.sizeOf129,
  v56 := Try.zeroValue129,
  i56 := (by kernel_rfl),
  t82 := Try.underlying196,
  a82 := Try.isAgg196,
  z82 := Try.sizeOf196,
  v82 := Try.zeroValue196,
  i82 := (by kernel_rfl),
  t83 := Try.underlying197,
  a83 := Try.isAgg197,
  z83 := Try.sizeOf197,
  v83 := Try.zeroValue197,
  i83 := (by kernel_rfl),
  t84 := Try.underlying198,
  a84 := Try.isAgg198,
  z84 := Try.sizeOf198,
  v84 := Try.zeroValue198,
  i84 := (by kernel_rfl),
  t85 := Try.underlying199,
  a85 := Try.isAgg199,
  z85 := Try.sizeOf199,
  v85 := Try.zeroValue199,
  i85 := (by kernel_rfl),
  t86 := Try.underlying200,
  a86 := Try.isAgg200,
  z86 := Try.sizeOf200,
  v86 := Try.zeroValue200,
  i86 := (by kernel_rfl),
  t87 := Try.underlying201,
  a87 := Try.isAgg201,
  z87 := Try.sizeOf201,
  v87 := Try.zeroValue201,
  i87 := (by kernel_rfl),
  t89 := Try.underlying203,
  a89 := Try.isAgg203,
  z89 := Try.sizeOf203,
  v89 := Try.zeroValue203,
  i89 := (by kernel_rfl) }
theorem own_cell {α : Type} [Inhabited α] {w : World} {E : TypeId} {n c g i : Nat} {enc : α → Value} {l : List α} {v : α} (h : (Res.own E 1 (.slice (some ⟨g, 0, none⟩) n c) n (List.flatMap (fun y => [enc y]) l)).holds w) (hi : i < n) :
    (Res.own E 1 (.slice (some ⟨g, 0, none⟩) n c) n (List.flatMap (fun y => [enc y]) (l.set i v))).holds (w.setCell ⟨g, 0 + i, none⟩ (enc v)) ∧ Fram (fun x => x = g) w (w.setCell ⟨g, 0 + i, none⟩ (enc v)) := by
  have hlen : l.length = n := own_flat (sz := 1) (fun _ => rfl) (by decide) h
  obtain ⟨hl0, h | ⟨g', cap, cur, hv, hg, hh, hn2, hcap, hsz, hx⟩⟩ := h
  · obtain ⟨h, _⟩ := h; simp at h
  · simp only [Value.slice.injEq, Option.some.injEq, Addr.mk.injEq] at hv
    obtain ⟨⟨rfl, _, _⟩, _, rfl⟩ := hv
    have hcur : cur = cur.toList.toArray := by simp
    have hs := setCell_eq_setRow w g (0 + i) cur E (0, 0) (enc v) hh
    rw [hs]
    refine ⟨⟨by rw [flat_one, List.length_map, List.length_set]; omega, .inr ⟨g, c, cur.setIfInBounds (0 + i) (enc v), rfl, hg, setRow_heap w g _ _ E _ hh, hn2, hcap, by simpa using hsz, ?_⟩⟩, setRow_fram w g _⟩
    rw [flat_one] at hx ⊢
    rw [Array.toList_setIfInBounds, Nat.zero_add, List.take_set, hx, List.map_set]
theorem int_info : ∃ ie, Try.prog.info? 3 = some ie ∧ ie.size = 1 ∧ ie.hasPointers = false ∧ ie.bytes = 8 := ⟨(Try.prog.info? 3).get (by kernel_rfl), by kernel_rfl, by kernel_rfl, by kernel_rfl, by kernel_rfl⟩
theorem swap_ok {w0 : World} {L : List Res} {sa : Option Addr} {sn sc : Nat} {l0 : List Int} : SwapOk w0 L 133 (.slice sa sn sc) (typeHandle Try.prog 3) sa sn sc l0 := by
  intro l X w i j _ hi hj hp
  obtain ⟨ie, hie, hsz, _, _⟩ := int_info
  obtain ⟨g, rfl, hH, hg, hln⟩ := own_holds (enc := Value.int .i64) hp.get0 (by omega)
  have hs := swapSwaps_of_literal (P := Try.prog) true 133 (fun args W => run_callFunc_extern Try.func133 (by kernel_rfl) (by kernel_rfl) (by kernel_rfl) (e := Extern.ReflectliteSwapper.swap true) (by kernel_rfl) args W) 3 ie hie hsz (fun _ => by kernel_rfl) (Value.int .i64) (fun _ => rfl) g 0 sn sc w l.toArray hH (by simpa using hln) i j hi hj
  obtain ⟨h1, f1⟩ := own_cell (v := l[j]!) hp.get0 hi
  obtain ⟨h2, f2⟩ := own_cell (v := l[i]!) h1 hj
  refine ⟨_, hs, ?_⟩
  rw [List.getElem!_toArray, List.getElem!_toArray]
  have f3 := f1.trans f2
  exact Hp.mod (A := []) hp (f3.mono fun b _ hb => by subst hb; rfl) _ h2 fun b hb => ⟨Nat.lt_of_lt_of_le (hp.lt0 b hb) f3.size, .inl hb⟩
theorem up_small {R : Int → Int → Prop} {l : List Int} {n : Nat} (h : n ≤ 1) : Up R l 0 n := fun i j h1 h2 h3 => by omega
theorem fram_grow (w : World) (os : Array Obj) : Fram Non w (grow w os) := ⟨rfl, rfl, rfl, by rw [size_grow]; omega, fun k hk _ => by
  show (w.heap ++ os)[k]? = w.heap[k]?
  rw [Array.getElem?_append_left hk]⟩
theorem stab_c {w0 w : World} {L : List Res} {g : FuncId} {c1 c2 : Value} {sa : Option Addr} {sn sc : Nat} {l0 : List Int} {lt R : Int → Int → Prop} (hcm : Cm l0 lt R) (hinc : Inc l0) (hnb : sn ≤ 8796093022207) (hless : LessOk w0 L g c1 c2 sa sn sc l0 lt) (hp : Hp w0 Non (OwI sa sn sc l0 :: L) w) :
    Calls Try.prog 109 #[.iface 24 (.slice sa sn sc), .func (.func g) #[] #[c1, c2]] w (fun x w' => x = .returned (.tuple #[]) ∧ ∃ q, (q.Perm l0 ∧ Up R q 0 sn) ∧ Hp w0 Non (OwI sa sn sc q :: L) w') := by
  have hn0 : l0.length = sn := own_flat (sz := 1) (fun _ => rfl) (by decide) hp.get0
  obtain ⟨ie, hie, hsz, hpt, hby⟩ := int_info
  have hki : ∀ w, (Extern.Rtype.kind 3).run Try.prog w = .ok 2 w := fun _ => by kernel_rfl
  by_cases h2 : 2 ≤ sn
  · have hk : swapperK sn ie 2 = 5 := by
      have c : (sn == 0) = false := by simp; omega
      have d : (sn == 1) = false := by simp; omega
      simp [swapperK, hpt, hby, c, d]
    refine Any.sort_SliceStable_of_stable stLay 24 3 ((Try.prog.info? 24).get (by kernel_rfl)) ie (by kernel_rfl) (by kernel_rfl) (by kernel_rfl) hie 2 hki sa sn sc (by omega) 133 (by rw [hk]; kernel_rfl) (.func g) #[] #[c1, c2] w _ ?_
    have hB : sliceBound Try.prog 3 ie 2 sa sn sc = #[.slice sa sn sc, typeHandle Try.prog 3] := by unfold sliceBound; rw [if_neg (swapperK_gt _ _ _ h2)]
    rw [hB]
    have hW : Hp w0 Non (OwI sa sn sc l0 :: L) (stableWorld Try.prog stRen 24 sa sn sc w) := hp.step ((Fram.alloc _ _ _).trans (Fram.alloc _ _ _))
    exact st_stable w0 g 133 c1 c2 (.slice sa sn sc) (typeHandle Try.prog 3) sa sn sc l0 lt R hcm hn0 hnb L hless swap_ok hinc _ hW
  · have hs : ∃ f, Try.prog.funcs.findIdx? (·.name == "internal/reflectlite" ++ ".Swapper$" ++ toString (swapperK sn ie 2)) = some f := by
      have : sn = 0 ∨ sn = 1 := by omega
      rcases this with rfl | rfl
      · exact ⟨129, by kernel_rfl⟩
      · exact ⟨130, by kernel_rfl⟩
    obtain ⟨f, hf⟩ := hs
    refine (Any.sort_SliceStable_tiny stLay 24 3 ((Try.prog.info? 24).get (by kernel_rfl)) ie (by kernel_rfl) (by kernel_rfl) (by kernel_rfl) hie 2 hki sa sn sc (by omega) f hf (.func g) #[] #[c1, c2] w).mono ?_
    rintro x w' ⟨rfl, os, rfl⟩
    exact ⟨rfl, l0, ⟨List.Perm.refl _, up_small (by omega)⟩, hp.step (fram_grow w os)⟩
end Go.Proofs.Ytdahgdkadfdkeaa.K
