/- Texts of this claim, merged: what the program's functions compute, and the rules that the walks use. -/
import Derived.Test.YtdkgdidnknojlaaProg
import Derived.Test.YtdkgdidnknojlaaZ1
import Derived.Test.YtdkgdidnknojlaaZ3
import Derived.Test.YtdkgdidnknojlaaZ8
import Derived.Test.YtdkgdidnknojlaaZ9
namespace Go.Proofs.Ytdkgdidnknojlaa.K
open Go Go.RowKit
set_option linter.unusedVariables false
structure SameI (T : Tb) (D : List (SlH × ByteArray)) (n : Nat) (C : List Ce) (dl : Nat) : Prop where
  ok : TbOk T D n
  doc : DocI C dl
  lk : ∀ key t v, memT T key t v ↔ memC C key t v
  ne : ∀ key s, mapV T key = some (some s) → s.l ≠ []
theorem RelI.same {T : Tb} {D DC : List (SlH × ByteArray)} {n : Nat} {C : List Ce} {dl : Nat} (h : RelI T D n C DC dl) : SameI T D n C dl := ⟨h.ok, h.doc, h.lk, h.ne⟩
theorem less_tri : ∀ {a b : List UInt8}, Op.bytesLess a b = false → Op.bytesLess b a = false → a = b
  | [], [], _, _ => rfl
  | [], _ :: _, h, _ => by simp [Op.bytesLess] at h
  | _ :: _, [], _, h => by simp [Op.bytesLess] at h
  | x :: a, y :: b, h, k => by
    simp only [Op.bytesLess, Bool.or_eq_false_iff, Bool.and_eq_false_iff, decide_eq_false_iff_not, beq_eq_false_iff_ne] at h k
    have e : x = y := by
      have h1 := h.1; have h2 := k.1
      rw [UInt8.not_lt] at h1 h2
      exact UInt8.le_antisymm h2 h1
    subst e
    rw [less_tri (h.2.resolve_left (by simp)) (k.2.resolve_left (by simp))]
theorem less_or {a b : ByteArray} (h : Op.bytesLess b.toList a.toList = false) (hne : a ≠ b) : Op.bytesLess a.toList b.toList = true := by
  cases q : Op.bytesLess a.toList b.toList with
  | true => rfl
  | false =>
    have e := less_tri q h
    rw [ByteArray.toList_eq, ByteArray.toList_eq] at e
    exact absurd (by obtain ⟨⟨x⟩⟩ := a; obtain ⟨⟨y⟩⟩ := b; exact congrArg (fun z => ByteArray.mk ⟨z⟩) e) hne
section
variable {C : List Ce} {key : ByteArray} {t : GTag} {v : Vt} {dl n n' i : Nat} {T T' T2 : Tb} {l : List (GTag × En)} {D D' D2 : List (SlH × ByteArray)} {d : ByteArray} {ls : List En} {hs : List Hd} {us : List Ud} {f : Bool} {e : Int}
theorem key_get (h : TbOk T D n) (hk : key ∈ T.map Prod.fst) : ∃ s, mapV T key = some (some s) := by
  rcases h.get key with q | q
  · exact absurd hk (mapV_none.1 q)
  · exact q
theorem ent_mem (hok : TbOk T D n) (h : EntR D' T key ls) : memT T key t v ↔ ∃ x ∈ ls, x.e.Tag = t ∧ vN x = v := by
  obtain ⟨hnd, _, htg⟩ := hok.sh key
  constructor
  · rintro ⟨x, hx, rfl⟩
    have h1 : pl x ∈ (shO (shK T key)).map fun q => pl q.2 := List.mem_map.2 ⟨(t, x), mapV_mem hx, rfl⟩
    rw [← h.1.mem_iff] at h1
    obtain ⟨z, hz, e⟩ := List.mem_map.1 h1
    have h2 := (htg _ (mapV_mem hx)).1
    unfold pl at e
    exact ⟨z, hz, (Prod.mk.inj e).1.trans h2, (Prod.mk.inj e).2⟩
  · rintro ⟨x, hx, rfl, rfl⟩
    have h1 : pl x ∈ ls.map pl := List.mem_map_of_mem hx
    rw [h.1.mem_iff] at h1
    obtain ⟨⟨a, z⟩, hz, e⟩ := List.mem_map.1 h1
    have h2 := (htg _ hz).1
    unfold pl at e
    refine ⟨z, ?_, (Prod.mk.inj e).2⟩
    rw [← (Prod.mk.inj e).1]
    show mapV _ z.e.Tag = some z
    rw [show z.e.Tag = a from h2]
    exact mapV_of_mem hnd hz
theorem ent_nd (hok : TbOk T D n) (h : EntR D' T key ls) : (ls.map fun x => x.e.Tag).Nodup := by
  obtain ⟨hnd, _, htg⟩ := hok.sh key
  have h1 := h.1.map Prod.fst
  rw [List.map_map, List.map_map] at h1
  refine (h1.nodup_iff).2 ?_
  rw [show (shO (shK T key)).map (Prod.fst ∘ fun q => pl q.2) = (shO (shK T key)).map Prod.fst from List.map_congr_left fun q hq => (htg q hq).1]
  exact hnd
theorem ent_rise (hok : TbOk T D n) (h : EntR D' T key ls) : ls.Pairwise fun x y => tlt x.e.Tag y.e.Tag := by
  have h1 := ent_nd hok h
  rw [List.Nodup, List.pairwise_map] at h1
  exact (h.2.1.and h1).imp fun ⟨a, b⟩ => Classical.byContradiction fun q => b (tlt_tri q a)
theorem pair_bang {α : Type} [Inhabited α] {R : α → α → Prop} {l : List α} (h : l.Pairwise R) {i j : Nat} (hij : i < j) (hj : j < l.length) : R l[i]! l[j]! := by
  have := List.pairwise_iff_getElem.1 h i j (by omega) hj hij
  rwa [getElem!_pos l i (by omega), getElem!_pos l j hj]
theorem hld_keys (hok : TbOk T D n) (h : HldR T hs D') : (hs.map fun y => y.h.Key).Nodup := (h.1.1.nodup_iff).2 hok.keys
theorem map_bangH (hi : i < hs.length) : (hs.map fun y => y.h.Key)[i]! = hs[i]!.h.Key := by
  rw [getElem!_pos _ i (by simpa using hi), getElem!_pos hs i hi, List.getElem_map]
theorem hol_ok (h : SameI T D n C dl) (hh : HldR T hs D') : HolOk C hs := by
  have hkey : ∀ y ∈ hs, ∃ s, mapV T y.h.Key = some (some s) := fun y hy => key_get h.ok ((hh.1.1.mem_iff).1 (List.mem_map.2 ⟨y, hy, rfl⟩))
  have hnd := hld_keys h.ok hh
  refine ⟨fun i hi => ?_, fun i h0 hi => ?_, fun i j hi hj => ?_, fun i j hi h0 hj => ?_, ?_⟩
  · obtain ⟨s, hs1⟩ := hkey _ (bang_mem hi)
    have h1 := (hh.2 _ (bang_mem hi)).1.length_eq
    simp only [List.length_map] at h1
    rw [h1, shK_some hs1]
    exact List.length_pos_iff.2 (h.ne _ _ hs1)
  · have h1 := pair_bang (i := i - 1) (j := i) hh.1.2 (by omega) (by simpa using hi)
    have h2 := pair_bang (i := i - 1) (j := i) hnd (by omega) (by simpa using hi)
    rw [map_bangH hi, map_bangH (by omega)] at h1 h2
    exact less_or h1 h2
  · have hy := hh.2 _ (bang_mem hi)
    have hx := bang_mem hj
    have h1 := (ent_mem h.ok hy).2 ⟨_, hx, rfl, rfl⟩
    obtain ⟨y, hy1, hy2, hy3⟩ := (h.lk _ _ _).1 h1
    rcases at_cases C hs[i]!.h.Key (hs[i]!.ls[j]!).e.Tag with ⟨_, q⟩ | ⟨k, q1, q2⟩
    · exact absurd ⟨y, hy1, hy2, hy3⟩ (no_mem q)
    · have h2 := atK_one h.doc q2 ⟨y, hy1, hy2, hy3⟩
      unfold vN vC at h2
      exact ⟨k, q1, q2.1, q2.2.1.2, (Prod.mk.inj h2).1.symm, (Prod.mk.inj (Prod.mk.inj h2).2).1.symm, (Prod.mk.inj (Prod.mk.inj h2).2).2.symm⟩
  · exact pair_bang (ent_rise h.ok (hh.2 _ (bang_mem hi))) (by omega) hj
  · have h1 : (hs.flatMap fun y => y.ls.map fun x => (y.h.Key, x.e.Tag)).Perm (C.map ktC) := by
      refine (List.perm_ext_iff_of_nodup ?_ h.doc.nd).2 fun a => ?_
      · rw [List.Nodup, List.pairwise_flatMap]
        constructor
        · intro y hy
          have := ent_nd h.ok (hh.2 y hy)
          rw [List.Nodup, List.pairwise_map] at this
          rw [List.pairwise_map]
          exact this.imp fun q e => q (Prod.mk.inj e).2
        · rw [List.Nodup, List.pairwise_map] at hnd
          refine hnd.imp fun {a b} q x hx z hz e => ?_
          obtain ⟨x', _, rfl⟩ := List.mem_map.1 hx
          obtain ⟨z', _, rfl⟩ := List.mem_map.1 hz
          exact q (Prod.mk.inj e).1
      · obtain ⟨key, t⟩ := a
        rw [List.mem_flatMap, List.mem_map]
        constructor
        · rintro ⟨y, hy, hz⟩
          obtain ⟨x, hx, e⟩ := List.mem_map.1 hz
          obtain ⟨rfl, rfl⟩ := Prod.mk.inj e
          obtain ⟨c, hc, h2, _⟩ := (h.lk _ _ _).1 ((ent_mem h.ok (hh.2 y hy)).2 ⟨x, hx, rfl, rfl⟩)
          exact ⟨c, hc, kt_iff.2 h2⟩
        · rintro ⟨c, hc, e⟩
          have h2 := (h.lk key t (vC c)).2 ⟨c, hc, kt_iff.1 e, rfl⟩
          have hk : key ∈ T.map Prod.fst := by
            refine Classical.byContradiction fun q => ?_
            obtain ⟨x, hx, _⟩ := h2
            rw [shK_none (mapV_none.2 q)] at hx
            exact nomatch hx
          rw [← hh.1.1.mem_iff] at hk
          obtain ⟨y, hy, rfl⟩ := List.mem_map.1 hk
          obtain ⟨x, hx, h3, _⟩ := (ent_mem h.ok (hh.2 y hy)).1 h2
          exact ⟨y, hy, List.mem_map.2 ⟨x, hx, by rw [h3]⟩⟩
    have h2 := h1.length_eq
    rw [List.length_flatMap, List.length_map] at h2
    simp only [List.length_map] at h2
    exact h2
/-- The entries of a key are few, and above its floor. -/
theorem small_ok (h : SameI T D n C dl) (hh : EntR D' T key ls) : (∀ x ∈ ls, ¬ tlt x.e.Tag (floD C key dl)) ∧ (ls.filter fun x => x.e.Has && x.e.Fin).length ≤ dl + 1 := by
  constructor
  · intro x hx
    obtain ⟨c, hc, h2, _⟩ := (h.lk _ _ _).1 ((ent_mem h.ok hh).2 ⟨x, hx, rfl, rfl⟩)
    have := h.doc.flo c hc
    rwa [h2.1, h2.2] at this
  · have h1 : ((ls.filter fun x => x.e.Has && x.e.Fin).map fun x => x.e.Tag).Nodup := by
      have := ent_nd h.ok hh
      rw [List.Nodup, List.pairwise_map] at *
      exact this.sublist List.filter_sublist
    have h2 : ∀ a ∈ (ls.filter fun x => x.e.Has && x.e.Fin).map fun x => x.e.Tag, a ∈ finD C key := by
      intro a ha
      obtain ⟨x, hx, rfl⟩ := List.mem_map.1 ha
      rw [List.mem_filter, Bool.and_eq_true] at hx
      rw [mem_finD2]
      have := (h.lk _ _ _).1 ((ent_mem h.ok hh).2 ⟨x, hx.1, rfl, rfl⟩)
      unfold vN at this
      rw [hx.2.2] at this
      exact ⟨_, _, this⟩
    have h3 := nodup_sub h1 h2
    rw [List.length_map] at h3
    have := h.doc.fin key
    omega
def vU (x : Ud) : Vt := (x.u.Entry.Fin, x.u.Entry.Has, x.d)
structure UpsOk (us : List Ud) (C : List Ce) : Prop where
  ord : us.Pairwise fun a b => a.u.Key = b.u.Key → tlt a.u.Entry.Tag b.u.Entry.Tag
  mem : ∀ key t v, memC C key t v ↔ ∃ x ∈ us, x.u.Key = key ∧ x.u.Entry.Tag = t ∧ vU x = v
  kind : ∀ x ∈ us, x.u.Kind = 3
theorem ups_ok (h : SameI T D n C dl) (hh : HldR T hs D') : UpsOk (upsL hs) C := by
  have hnd := hld_keys h.ok hh
  refine ⟨?_, fun key t v => ?_, fun x hx => ?_⟩
  · unfold upsL
    rw [List.pairwise_flatMap]
    constructor
    · intro y hy
      rw [List.pairwise_map]
      exact List.Pairwise.imp (R := fun (x z : En) => tlt x.e.Tag z.e.Tag) (S := fun (x z : En) => (upO y x).u.Key = (upO y z).u.Key → tlt (upO y x).u.Entry.Tag (upO y z).u.Entry.Tag) (fun {a b} q _ => q) (ent_rise h.ok (hh.2 y hy))
    · rw [List.Nodup, List.pairwise_map] at hnd
      refine hnd.imp fun {a b} q x hx z hz e => ?_
      obtain ⟨x', _, rfl⟩ := List.mem_map.1 hx
      obtain ⟨z', _, rfl⟩ := List.mem_map.1 hz
      exact absurd e q
  · rw [← h.lk]
    unfold upsL
    constructor
    · intro hm
      have hk : key ∈ T.map Prod.fst := by
        refine Classical.byContradiction fun q => ?_
        obtain ⟨x, hx, _⟩ := hm
        rw [shK_none (mapV_none.2 q)] at hx
        exact nomatch hx
      rw [← hh.1.1.mem_iff] at hk
      obtain ⟨y, hy, rfl⟩ := List.mem_map.1 hk
      obtain ⟨x, hx, h3, h4⟩ := (ent_mem h.ok (hh.2 y hy)).1 hm
      exact ⟨upO y x, List.mem_flatMap.2 ⟨y, hy, List.mem_map_of_mem hx⟩, rfl, h3, h4⟩
    · rintro ⟨z, hz, rfl, rfl, rfl⟩
      obtain ⟨y, hy, hz⟩ := List.mem_flatMap.1 hz
      obtain ⟨x, hx, rfl⟩ := List.mem_map.1 hz
      exact (ent_mem h.ok (hh.2 y hy)).2 ⟨x, hx, rfl, rfl⟩
  · obtain ⟨y, hy, hz⟩ := List.mem_flatMap.1 hx
    obtain ⟨x, hx, rfl⟩ := List.mem_map.1 hz
    rfl
end
end Go.Proofs.Ytdkgdidnknojlaa.K
namespace Go.Proofs.Ytdkgdidnknojlaa.K
open Go Go.RowKit
set_option linter.unusedVariables false
structure PartI (T : Tb) (D : List (SlH × ByteArray)) (n : Nat) (us : List Ud) (i : Nat) : Prop where
  ok : TbOk T D n
  lk : ∀ key t v, memT T key t v ↔ ∃ j, j < i ∧ us[j]!.u.Key = key ∧ us[j]!.u.Entry.Tag = t ∧ vU us[j]! = v
  ne : ∀ key s, mapV T key = some (some s) → s.l ≠ []
theorem part_nil (us : List Ud) : PartI [] [] 0 us 0 := ⟨tbok_nil, fun key t v => ⟨fun ⟨x, h, _⟩ => (by simp [shK, mapV_nil, shO] at h), fun ⟨j, h, _⟩ => absurd h (by omega)⟩, fun key s h => (by simp [mapV_nil] at h)⟩
section
variable {C : List Ce} {key : ByteArray} {t : GTag} {v : Vt} {dl n n' i : Nat} {T T1 T' T2 : Tb} {l : List (GTag × En)} {D D' D2 : List (SlH × ByteArray)} {d : ByteArray} {us : List Ud} {f : Bool} {e : Int} {u : GUpdate}
theorem not_floT (hn : (l.map Prod.fst).Nodup) (h : ∀ a x, mapV l a = some x → x.e.Fin = true → ¬ tlt t a) (hz : ¬ tlt t ⟨0, 0⟩) : ¬ tlt t (floT l dl) := by
  rcases Nat.lt_or_ge dl (finS l).length with q | q
  · rw [floT_in q]
    obtain ⟨x, h1, h2⟩ := (mem_finS hn).1 (bang_mem q)
    exact h _ _ h1 h2
  · rw [floT_out q]; exact hz
theorem en_none (h : ¬ ∃ v, memT T key t v) : enK T key t = en0 := by
  unfold enK
  cases q : mapV (shO (shK T key)) t with
  | none => rfl
  | some x => exact absurd ⟨_, x, q, rfl⟩ h
theorem en_some (h : memT T key t v) : vN (enK T key t) = v := by
  obtain ⟨x, h1, h2⟩ := h
  unfold enK; rw [h1]; exact h2
theorem re_step (hD : DocI C dl) (hu : UpsOk us C) (h : PartI T D n us i) (hi : i < us.length) (he : us[i]! = ⟨u, d⟩) (hd : d.size = u.Entry.Data.n) (ha : ApR T D u d dl f e T2 D2) :
    f = true ∧ e = 0 ∧ PartI T2 D2 (n + 1) us (i + 1) := by
  have kk := ha.ok1 h.ok
  have hin : us[i]! ∈ us := bang_mem hi
  have hK : u.Kind = 3 := by have := hu.kind _ hin; rwa [he] at this
  have hmem : memC C u.Key u.Entry.Tag (u.Entry.Fin, u.Entry.Has, d) := (hu.mem _ _ _).2 ⟨us[i]!, hin, by rw [he], by rw [he], by rw [he]; rfl⟩
  obtain ⟨y, hy, hyc, hyv⟩ := hmem
  have hg := hD.good y hy
  have e1 : y.c.e.Fin = u.Entry.Fin := (Prod.mk.inj hyv).1
  have e2 : y.c.e.Has = u.Entry.Has := (Prod.mk.inj (Prod.mk.inj hyv).2).1
  have e3 : y.d = d := (Prod.mk.inj (Prod.mk.inj hyv).2).2
  have g1 := hg.some; have g2 := hg.nod; have g3 := hg.size; have g4 := hg.key; have g5 := hg.tag
  rw [e1, e2] at g1; rw [e2, e3] at g2; rw [e3] at g3; rw [hyc.1] at g4; rw [hyc.2] at g5
  have hz := proper_zero g5
  have hM : MayU u := by
    refine ⟨g4.1, g4.2, g5, by rw [← hd]; exact g3, .inr (.inr ⟨hK, ?_⟩)⟩
    by_cases q : u.Entry.Has = true
    · exact .inl q
    · refine .inr ⟨g1.resolve_right q, ?_⟩
      rw [← hd, g2 q]; rfl
  have hcm : comesU u ↔ u.Entry.Has = true := by unfold comesU; rw [hK]; simp
  have hen : endsU u ↔ u.Entry.Fin = true := by unfold endsU; rw [hK]; simp
  have hlt : ∀ {t v}, memT T u.Key t v → tlt t u.Entry.Tag := by
    intro t v hm
    obtain ⟨j, hj, h1, h2, _⟩ := (h.lk _ _ _).1 hm
    have := pair_bang hu.ord hj hi
    rw [he, h1, h2] at this
    exact this rfl
  have hno : ¬ ∃ v, memT T u.Key u.Entry.Tag v := fun ⟨v, hm⟩ => tlt_irr (hlt hm)
  have hsub : ∀ {key t v}, memT T key t v → memC C key t v := by
    intro key t v hm
    obtain ⟨j, hj, h1, h2, h3⟩ := (h.lk _ _ _).1 hm
    exact (hu.mem _ _ _).2 ⟨us[j]!, bang_mem (by omega), h1, h2, h3⟩
  rcases ha with ⟨q, _⟩ | ⟨_, rfl, f1, f2, T1, hp1, hp2, hf⟩
  · exact absurd hM q
  -- the fragment
  have s1 : TbOk T1 D2 (n + 1) ∧ (f1 = true ↔ u.Entry.Has = true) ∧ (∀ key s, mapV T1 key = some (some s) → s.l ≠ []) ∧ ∀ key t v, memT T1 key t v ↔ (u.Entry.Has = true ∧ key = u.Key ∧ t = u.Entry.Tag ∧ v = (false, true, d)) ∨ memT T key t v := by
    rcases hp1 with ⟨hc, hp⟩ | ⟨hc, rfl, rfl, rfl⟩
    · have hH := hcm.1 hc
      have hok := hp.ok h.ok
      rcases hp with ⟨hnc, _⟩ | ⟨_, rfl, b, hh, X, rfl, rfl, hdk⟩
      · refine absurd ?_ hnc
        unfold chgP
        rw [not_or, en_none hno]
        refine ⟨(by decide), not_floT (h.ok.sh u.Key).1 (fun a x h1 h2 => ?_) hz⟩
        exact tlt_asym (hlt ⟨x, h1, rfl⟩)
      · refine ⟨hok, ⟨fun _ => hH, fun _ => rfl⟩, ne_put h.ne put_ne, fun key t v => ?_⟩
        rw [memT_put (g := u.Entry.Tag) rfl, en_none hno]
        show (key = u.Key ∧ t = u.Entry.Tag ∧ v = (false, true, d)) ∨ _ ↔ _
        constructor
        · rintro (q | ⟨_, q⟩)
          · exact .inl ⟨hH, q⟩
          · exact .inr q
        · rintro (⟨_, q⟩ | q)
          · exact .inl q
          · exact .inr ⟨fun z => (by obtain ⟨rfl, rfl⟩ := z; exact hno ⟨_, q⟩), q⟩
    · have hH : ¬ u.Entry.Has = true := fun q => hc (hcm.2 q)
      exact ⟨h.ok.more, ⟨fun q => (nomatch q), fun q => absurd q hH⟩, h.ne, fun key t v => ⟨.inr, fun q => q.resolve_left fun z => hH z.1⟩⟩
  obtain ⟨k1, kf1, kn1, m1⟩ := s1
  -- the tag
  have s2 : TbOk T2 D2 (n + 2) ∧ (f2 = true ↔ u.Entry.Fin = true) ∧ (∀ key s, mapV T2 key = some (some s) → s.l ≠ []) ∧ ∀ key t v, memT T2 key t v ↔ (key = u.Key ∧ t = u.Entry.Tag ∧ v = (u.Entry.Fin, u.Entry.Has, d)) ∨ memT T key t v := by
    rcases hp2 with ⟨hc, hp⟩ | ⟨hc, rfl, rfl⟩
    · have hF := hen.1 hc
      have hok := hp.ok k1
      have hnf : ¬ ∃ x y, memT T1 u.Key u.Entry.Tag (true, x, y) := by
        rintro ⟨x, y, hm⟩
        rcases (m1 _ _ _).1 hm with ⟨_, _, _, q⟩ | q
        · exact nomatch (Prod.mk.inj q).1
        · exact hno ⟨_, q⟩
      have hw : (enK T1 u.Key u.Entry.Tag).e.Fin = false ∧ (enK T1 u.Key u.Entry.Tag).e.Has = u.Entry.Has ∧ (enK T1 u.Key u.Entry.Tag).d = d := by
        by_cases q : u.Entry.Has = true
        · have := en_some ((m1 u.Key u.Entry.Tag (false, true, d)).2 (.inl ⟨q, rfl, rfl, rfl⟩))
          unfold vN at this
          rw [q]
          exact ⟨(Prod.mk.inj this).1, (Prod.mk.inj (Prod.mk.inj this).2).1, (Prod.mk.inj (Prod.mk.inj this).2).2⟩
        · have : ¬ ∃ v, memT T1 u.Key u.Entry.Tag v := fun ⟨v, hm⟩ => by
            rcases (m1 _ _ _).1 hm with ⟨z, _⟩ | z
            · exact q z
            · exact hno ⟨_, z⟩
          rw [en_none this, g2 q]
          exact ⟨rfl, by cases hx : u.Entry.Has <;> simp_all [en0], rfl⟩
      rcases hp with ⟨hnc, _⟩ | ⟨_, rfl, b, rfl⟩
      · refine absurd ?_ hnc
        unfold chgF
        rw [not_or, hw.1]
        refine ⟨(by decide), not_floT (k1.sh u.Key).1 (fun a x h1 h2 => ?_) hz⟩
        have hm : memT T1 u.Key a (vN x) := ⟨x, h1, rfl⟩
        rcases (m1 _ _ _).1 hm with ⟨_, _, _, q⟩ | q
        · unfold vN at q; rw [h2] at q; exact nomatch (Prod.mk.inj q).1
        · exact tlt_asym (hlt q)
      · have hP : ∀ key t v, memT (mapPut T1 u.Key (some ⟨b, finP T1 u.Key u.Entry.Tag⟩)) key t v ↔ (key = u.Key ∧ t = u.Entry.Tag ∧ v = (u.Entry.Fin, u.Entry.Has, d)) ∨ memT T key t v := by
          intro key t v
          unfold finP
          rw [memT_put (g := u.Entry.Tag) rfl, m1]
          show (_ ∧ _ ∧ v = (true, (enK T1 u.Key u.Entry.Tag).e.Has, (enK T1 u.Key u.Entry.Tag).d)) ∨ _ ↔ _
          rw [hw.2.1, hw.2.2, hF]
          constructor
          · rintro (q | ⟨q, ⟨_, z, z2, _⟩ | z⟩)
            · exact .inl q
            · exact absurd ⟨z, z2⟩ q
            · exact .inr z
          · rintro (q | q)
            · exact .inl q
            · exact .inr ⟨fun z => (by obtain ⟨rfl, rfl⟩ := z; exact hno ⟨_, q⟩), .inr q⟩
        have hsub2 : ∀ {key t v}, memT (mapPut T1 u.Key (some ⟨b, finP T1 u.Key u.Entry.Tag⟩)) key t v → memC C key t v := by
          intro key t v hm
          rcases (hP _ _ _).1 hm with ⟨rfl, rfl, rfl⟩ | q
          · exact ⟨y, hy, hyc, hyv⟩
          · exact hsub q
        have hnd := (finP_ok (key := u.Key) (g := u.Entry.Tag) k1).1
        have hfin : ∀ a, a ∈ finS (finP T1 u.Key u.Entry.Tag) → a ∈ finD C u.Key := by
          intro a ha
          obtain ⟨x, h1, h2⟩ := (mem_finS hnd).1 ha
          rw [mem_finD2]
          refine ⟨x.e.Has, x.d, hsub2 ⟨x, ?_, by unfold vN; rw [h2]⟩⟩
          rw [shK_put, if_pos rfl]; exact h1
        have hkeep : ∀ t v, memT (mapPut T1 u.Key (some ⟨b, finP T1 u.Key u.Entry.Tag⟩)) u.Key t v → ¬ tlt t (floT (finP T1 u.Key u.Entry.Tag) dl) := by
          intro t v hm
          obtain ⟨c, hc1, hc2, _⟩ := hsub2 hm
          rcases Nat.lt_or_ge dl (finS (finP T1 u.Key u.Entry.Tag)).length with q | q
          · have hback : ∀ a, a ∈ finD C u.Key → a ∈ finS (finP T1 u.Key u.Entry.Tag) := fun a ha => Classical.byContradiction fun hna => by
              have h1 := nodup_sub (a := a :: finS (finP T1 u.Key u.Entry.Tag)) (b := finD C u.Key) (List.nodup_cons.2 ⟨hna, finS_nd hnd⟩) (fun z hz => (List.mem_cons.1 hz).elim (fun e => e ▸ ha) (hfin z))
              have h2 := hD.fin u.Key
              simp only [List.length_cons] at h1
              omega
            have heq : finS (finP T1 u.Key u.Entry.Tag) = finD C u.Key := by
              refine finD_uniq ?_ (finS_desc _)
              exact ((List.perm_ext_iff_of_nodup (finS_nd hnd) (finD_nd hD.nd)).2 fun a => ⟨hfin a, hback a⟩).trans (List.mergeSort_perm (finC C u.Key) geT)
            have h1 := hD.flo c hc1
            rw [hc2.1, hc2.2] at h1
            unfold floT
            rw [heq]
            exact h1
          · rw [floT_out q]
            have := (hD.good c hc1).tag
            rw [hc2.2] at this
            exact proper_zero this
        have hall : ∀ key t v, memT (mapPut T1 u.Key (some ⟨b, keepT (finP T1 u.Key u.Entry.Tag) (floT (finP T1 u.Key u.Entry.Tag) dl)⟩)) key t v ↔ (key = u.Key ∧ t = u.Entry.Tag ∧ v = (u.Entry.Fin, u.Entry.Has, d)) ∨ memT T key t v := by
          intro key t v
          rw [memT_keep (c := b), ← hP]
          constructor
          · exact fun q => q.1
          · intro q
            refine ⟨q, ?_⟩
            rintro ⟨rfl, z⟩
            exact hkeep t v q z
        refine ⟨hok, ⟨fun _ => hF, fun _ => rfl⟩, ne_put kn1 ?_, hall⟩
        intro q
        obtain ⟨x, hx, _⟩ := (hall u.Key u.Entry.Tag _).2 (.inl ⟨rfl, rfl, rfl⟩)
        rw [shK_put, if_pos rfl] at hx
        have hx2 : mapV (keepT (finP T1 u.Key u.Entry.Tag) (floT (finP T1 u.Key u.Entry.Tag) dl)) u.Entry.Tag = some x := hx
        rw [q, mapV_nil] at hx2
        cases hx2
    · have hF : ¬ u.Entry.Fin = true := fun q => hc (hen.2 q)
      have hH := g1.resolve_left hF
      have hF2 : u.Entry.Fin = false := by cases hx : u.Entry.Fin <;> simp_all
      refine ⟨k1.more, ⟨fun q => (nomatch q), fun q => absurd q hF⟩, kn1, fun key t v => ?_⟩
      rw [m1, hH, hF2]
      simp
  obtain ⟨k2, kf2, kn2, m2⟩ := s2
  refine ⟨?_, rfl, kk, fun key t v => ?_, kn2⟩
  · rw [hf, kf1, kf2]
    exact g1.symm
  · rw [m2, h.lk]
    constructor
    · rintro (⟨rfl, rfl, rfl⟩ | ⟨j, hj, q⟩)
      · exact ⟨i, by omega, by rw [he], by rw [he], by rw [he]; rfl⟩
      · exact ⟨j, by omega, q⟩
    · rintro ⟨j, hj, q1, q2, q3⟩
      rcases Nat.lt_or_ge j i with q | q
      · exact .inr ⟨j, q, q1, q2, q3⟩
      · obtain rfl : j = i := by omega
        rw [he] at q1 q2 q3
        exact .inl ⟨q1.symm, q2.symm, q3.symm⟩
theorem re_end (hD : DocI C dl) (hu : UpsOk us C) (h : PartI T D n us us.length) : SameI T D n C dl := by
  refine ⟨h.ok, hD, fun key t v => ?_, h.ne⟩
  rw [h.lk, hu.mem]
  constructor
  · rintro ⟨j, hj, q⟩; exact ⟨us[j]!, bang_mem hj, q⟩
  · rintro ⟨x, hx, q⟩
    obtain ⟨j, hj, rfl⟩ := List.mem_iff_getElem.1 hx
    exact ⟨j, hj, by rw [getElem!_pos us j hj]; exact q⟩
end
end Go.Proofs.Ytdkgdidnknojlaa.K
namespace Go.Proofs.Ytdkgdidnknojlaa.K
open Go Go.Proofs Go.RowKit
set_option linter.unusedVariables false
set_option linter.unusedSimpArgs false
set_option maxRecDepth 20000
set_option maxHeartbeats 4000000

theorem keys_c (tb m dl : Nat) (T : Tb) (F : Nat → Prop) (D : List (SlH × ByteArray)) (n : Nat) (w : World) (hT : TbH w tb m dl T F D 54) (hok : TbOk T D n) (hn : n ≤ 1048600)  :
    Calls Try.prog 31 #[.pointer (some ⟨tb, 0, none⟩)] w (fun r_ w' => ∃ a n c ks, r_ = .returned (.slice a n c) ∧ KeyR T ks ∧ Hp w Non [Res.own 9 1 (.slice a n c) n (List.flatMap strC ks)] w') := by
  have hsz := hok.size
  obtain ⟨es, cc, hmo⟩ := MO.of hT.keys
  refine calls_of Try.func31 rfl 23 rfl (by simp) ?_
  have hp0 := Hp.init w
  have he0 : List.map (env0 [.pointer (some ⟨tb, 0, none⟩)]) [0] = [.pointer (some ⟨tb, 0, none⟩)] := by kernel_rfl
  obtain ⟨b0, he0⟩ := toMk he0
  rw [he0]
  clear he0
  refine WP.seq ?_
  refine WP.pure {} [] [0] [.pointer (some ⟨tb, 0, none⟩)] .nil (by kernel_rfl) (fun b1 => ?_)
  refine thn_n ?_
  refine WP.seq ?_
  refine WP.seq ?_
  refine WP.pure {} [] [0, 6] [.pointer (some ⟨tb, 0, none⟩), .bool false] .nil (by kernel_rfl) (fun b2 => ?_)
  refine thn_n ?_
  refine WP.condF rfl ?_
  refine WP.skip ?_
  refine thn_n ?_
  refine WP.seq ?_
  refine WP.pure {} [] [0, 3] [.pointer (some ⟨tb, 0, none⟩), .slice none 0 0] .nil (by kernel_rfl) (fun b3 => ?_)
  refine thn_n ?_
  refine WP.seq ?_
  refine WP.seq ?_
  refine WP.region _ rfl (by kernel_rfl) ?_
  refine OPS.batch 4 {} [.map (some m)] [3, 10] [.slice none 0 0, .map (some m)] (.cons (Ld.row1 (P := Try.prog) (t := 52) (o := 1) (v := .map (some m)) (hT.fram hp0.fr).row (by kernel_rfl)) .nil) (by kernel_rfl) (fun b4 => ?_)
  refine OPS.cons (opStep.rangeX (by exact Try.underlying52) hp0 (hmo.fram hp0.fr) (by kernel_rfl) (fun it7 w5 hp6 => ?_))
  refine OPS.nil ?_
  refine thn_n ?_
  refine WP.block ?_
  have hp8 := (show Hp w Non [Res.own 9 1 (.slice none 0 0) 0 (List.flatMap strC ([] : List ByteArray)), Res.mit it7 (some m) es cc ([] : List Nat)] w5 from hp6.nilOwn 9 1)
  refine WP.loop (fun mz_ e9 w10 => ∃ (dn : List Nat) (xs : List ByteArray) (ao : Option Addr) (no : Nat) (co : Nat), mz_ = T.length - dn.length ∧ ((xs = dn.map fun i => (T[i]!).1) ∧ True) ∧ List.map e9 [3, 11] = [.slice ao no co, .pointer (some ⟨it7, 0, none⟩)] ∧ Hp w Non [Res.own 9 1 (.slice ao no co) no (List.flatMap strC xs), Res.mit it7 (some m) es cc dn] w10) (T.length - ([]).length) ⟨[], [], none, 0, 0, rfl, ⟨rfl, trivial⟩, by kernel_rfl, hp8⟩ ?_
  rintro _ e9 w10 ⟨dn, xs, ao, no, co, rfl, hI12, hE13, hp11⟩
  obtain ⟨b14, rfl⟩ := toMk hE13
  clear hE13
  obtain ⟨pa, _⟩ := hI12
  have pe := own_flat (f := strC) (sz := 1) (fun _ => rfl) (by decide) hp11.get0
  have pl : xs.length = dn.length := by rw [pa, List.length_map]
  have pd := mit_done (Hp.get (A := []) hp11.pull1)
  have pd2 := nodup_le pd.1 pd.2
  rw [hmo.len] at pd2
  refine WP.seq ?_
  refine WP.region _ rfl (by kernel_rfl) ?_
  have hp17 := hp11.pull1
  refine OPS.cons (opStep.nextX hp17 (hmo.fram hp17.fr) (by kernel_rfl) (fun ha22 => ?_) (fun n18 p19 w15 hn20 hm21 hp16 => ?_))
  · have ha22d := mit_done (Hp.get (A := []) hp17)
    refine OPS.batch 1 {} [] [3, 11, 13] [.slice ao no co, .pointer (some ⟨it7, 0, none⟩), .bool false] .nil (by kernel_rfl) (fun b23 => ?_)
    refine OPS.nil ?_
    refine thn_n ?_
    refine WP.seq ?_
    refine WP.condF rfl ?_
    refine WP.exit ?_
    refine thn_x ?_
    refine thn_x ?_
    refine blk_hit ?_
    refine thn_n ?_
    refine WP.seq ?_
    refine WP.region _ rfl (by kernel_rfl) ?_
    refine OPS.batch 1 {} [] [3, 20] [.slice ao no co, .slice ao no co] .nil (by kernel_rfl) (fun b24 => ?_)
    have hp27 := hp17.pull1
    refine OPS.cons (opStep.call (some 21) [.slice ao no co] (by kernel_rfl) (sort_strs (by omega) hp27) ?_)
    rintro _ w28 ⟨ks30, rfl, hq31, hp29⟩
    refine ⟨_, rfl, ?_⟩
    refine OPS.nil ?_
    refine thn_n ?_
    refine WP.seq ?_
    refine WP.pure {} [] [2] [.slice ao no co] .nil (by kernel_rfl) (fun b32 => ?_)
    refine thn_n ?_
    refine WP.ret ?_
    refine bodyQ.of _ rfl [.slice ao no co] ⟨rfl, trivial⟩ ?_
    exact ⟨_, _, _, ks30, rfl, ky_all pa ha22d.1 (by rw [← hmo.len]; exact ha22d.2) ha22 hq31.1 hq31.2, (hp29.sub (.cons_cons _ (.cons _ (.slnil))))⟩
  · refine OPS.batch 1 {} [] [3, 11, 13] [.slice ao no co, .pointer (some ⟨it7, 0, none⟩), .bool true] .nil (by kernel_rfl) (fun b33 => ?_)
    refine OPS.nil ?_
    refine thn_n ?_
    refine WP.seq ?_
    refine WP.condT rfl ?_
    refine WP.skip ?_
    refine thn_n ?_
    refine WP.block ?_
    refine WP.seq ?_
    refine WP.region _ rfl (by kernel_rfl) ?_
    have hp36 := hp16.pull0
    refine OPS.cons (opStep.entryX hp36 (hmo.fram hp36.fr) hn20 (by kernel_rfl) ?_)
    refine OPS.batch 2 {} [] [3, 4, 11] [.slice ao no co, .string p19.1, .pointer (some ⟨it7, 0, none⟩)] .nil (by kernel_rfl) (fun b37 => ?_)
    refine OPS.nil ?_
    refine thn_n ?_
    refine WP.region _ rfl (by kernel_rfl) ?_
    refine OPS.batch 2 {} [] [11, 16, 17] [.pointer (some ⟨it7, 0, none⟩), .slice ao no co, .string p19.1] .nil (by kernel_rfl) (fun b38 => ?_)
    refine OPS.cons (opStep.buildSlice (E := 9) hp36 [.string p19.1] (by kernel_rfl) (fun g41 w39 hp40 => ?_))
    refine OPS.cons (opStep.append2 [.string p19.1] hp40 16 (by kernel_rfl) rfl rfl rfl (SlR.row (n := 1) hp40.get0 rfl).rd (List.all_eq_true.1 (by kernel_rfl)) (by decide) (by omega) (by omega) (fun a44 c45 w46 hp47 hn48 => ?_))
    rw [(show List.flatMap strC xs ++ [.string p19.1] = List.flatMap strC (xs ++ [p19.1]) from (List.flatMap_append (xs := xs) (ys := [p19.1])).symm)] at hp47
    refine OPS.batch 1 {} [] [3, 11] [.slice a44 (no + 1) c45, .pointer (some ⟨it7, 0, none⟩)] .nil (by kernel_rfl) (fun b49 => ?_)
    refine OPS.nil ?_
    refine blk_n ?_
    refine thn_n ?_
    have hd_ := mit_done (Hp.get (A := []) hp47.pull1)
    have hd2_ := nodup_le hd_.1 hd_.2
    rw [hmo.len] at hd2_
    exact ⟨T.length - ((dn ++ [n18])).length, (by simp only [List.length_append, List.length_cons, List.length_nil] at *; omega), (dn ++ [n18]), xs ++ [p19.1], a44, no + 1, c45, rfl, ⟨ky_snoc pa hn20, trivial⟩, by kernel_rfl, (((hp47.pull1).pull2).sub (.cons_cons _ (.cons_cons _ (.cons _ (.slnil)))))⟩

theorem copied_c (x : En) (w : World) (hb : Bt w x.e.Data x.d) (hsz : x.d.size ≤ 140737488355327) :
    Calls Try.prog 35 #[GEntry.val x.e] w (fun r_ w' => ∃ (e1 : GEntry) (F1 : Nat → Prop), r_ = .returned (GEntry.val e1) ∧ (e1.Tag = x.e.Tag ∧ e1.Fin = x.e.Fin ∧ e1.Has = x.e.Has) ∧ Hp w Non [Res.dat F1 [(e1.Data, x.d)]] w') := by
  refine calls_of Try.func35 rfl 8 rfl (by simp) ?_
  have hp0 := Hp.init w
  have he0 : List.map (env0 [GEntry.val x.e]) [0] = [GEntry.val x.e] := by kernel_rfl
  obtain ⟨b0, he0⟩ := toMk he0
  rw [he0]
  clear he0
  refine WP.seq ?_
  refine WP.region _ rfl (by kernel_rfl) ?_
  refine OPS.cons (opStep.box hp0 [.int .i64 x.e.Tag.Count, .int .i64 x.e.Tag.Client, .bool x.e.Fin, .bool x.e.Has, .slice x.e.Data.a x.e.Data.n x.e.Data.c] (by kernel_rfl) (fun g3 w1 hp2 => ?_))
  refine OPS.cons (opStep.alloc hp2 [.int .i64 0, .int .i64 0, .bool false, .bool false, .slice none 0 0] (by kernel_rfl) (fun g6 w4 hp5 => ?_))
  refine OPS.nil ?_
  refine thn_n ?_
  refine WP.seq ?_
  refine WP.region _ rfl (by kernel_rfl) ?_
  refine OPS.batch 2 {} [.slice x.e.Data.a x.e.Data.n x.e.Data.c] [1, 2, 4] [.pointer (some ⟨g3, 0, none⟩), .pointer (some ⟨g6, 0, none⟩), .slice x.e.Data.a x.e.Data.n x.e.Data.c] (.cons (Ld.row1 (P := Try.prog) (t := 32) (o := 4) (v := .slice x.e.Data.a x.e.Data.n x.e.Data.c) hp5.get1 (by kernel_rfl)) .nil) (by kernel_rfl) (fun b7 => ?_)
  refine OPS.cons (opStep.call (some 5) [.slice x.e.Data.a x.e.Data.n x.e.Data.c] (by kernel_rfl) (cl_c x.e.Data x.d _ (hb.fram hp5.fr) hsz) ?_)
  rintro _ w10 ⟨h12, F13, rfl, hp11⟩
  refine ⟨_, rfl, ?_⟩
  have hp14 := hp5.madeQ hp11
  simp only [List.cons_append, List.nil_append] at hp14
  refine OPS.batch 1 {} [] [1, 2, 5, 6] [.pointer (some ⟨g3, 0, none⟩), .pointer (some ⟨g6, 0, none⟩), .slice h12.a h12.n h12.c, .pointer (some ⟨g3, 4, none⟩)] .nil (by kernel_rfl) (fun b15 => ?_)
  refine OPS.cons (opStep.store2 hp14 rfl [.slice h12.a h12.n h12.c] [.int .i64 x.e.Tag.Count, .int .i64 x.e.Tag.Client, .bool x.e.Fin, .bool x.e.Has, .slice h12.a h12.n h12.c] (by kernel_rfl) (fun w16 hp17 => ?_))
  refine OPS.nil ?_
  refine thn_n ?_
  refine WP.seq ?_
  refine WP.region _ rfl (by kernel_rfl) ?_
  refine OPS.batch 1 {} [.agg #[.int .i64 x.e.Tag.Count, .int .i64 x.e.Tag.Client, .bool x.e.Fin, .bool x.e.Has, .slice h12.a h12.n h12.c]] [2, 7] [.pointer (some ⟨g6, 0, none⟩), .agg #[.int .i64 x.e.Tag.Count, .int .i64 x.e.Tag.Client, .bool x.e.Fin, .bool x.e.Has, .slice h12.a h12.n h12.c]] (.cons (show Ld Try.prog w16 34 ⟨g3, 0, none⟩ (.agg #[.int .i64 x.e.Tag.Count, .int .i64 x.e.Tag.Client, .bool x.e.Fin, .bool x.e.Has, .slice h12.a h12.n h12.c]) from Ld.rowN (cs := [.int .i64 x.e.Tag.Count, .int .i64 x.e.Tag.Client, .bool x.e.Fin, .bool x.e.Has, .slice h12.a h12.n h12.c]) hp17.get2 (by kernel_rfl)) .nil) (by kernel_rfl) (fun b18 => ?_)
  refine OPS.cons (opStep.store1 hp17 rfl [.int .i64 x.e.Tag.Count, .int .i64 x.e.Tag.Client, .bool x.e.Fin, .bool x.e.Has, .slice h12.a h12.n h12.c] [.int .i64 x.e.Tag.Count, .int .i64 x.e.Tag.Client, .bool x.e.Fin, .bool x.e.Has, .slice h12.a h12.n h12.c] (by kernel_rfl) (fun w19 hp20 => ?_))
  refine OPS.nil ?_
  refine thn_n ?_
  refine WP.ret ?_
  refine bodyQ.of _ rfl [.agg #[.int .i64 x.e.Tag.Count, .int .i64 x.e.Tag.Client, .bool x.e.Fin, .bool x.e.Has, .slice h12.a h12.n h12.c]] ⟨⟨_, rfl, (show Ld Try.prog w19 34 ⟨g6, 0, none⟩ (.agg #[.int .i64 x.e.Tag.Count, .int .i64 x.e.Tag.Client, .bool x.e.Fin, .bool x.e.Has, .slice h12.a h12.n h12.c]) from Ld.rowN (cs := [.int .i64 x.e.Tag.Count, .int .i64 x.e.Tag.Client, .bool x.e.Fin, .bool x.e.Has, .slice h12.a h12.n h12.c]) hp20.get1 (by kernel_rfl))⟩, trivial⟩ ?_
  exact ⟨(⟨x.e.Tag, x.e.Fin, x.e.Has, h12⟩ : GEntry), _, rfl, ⟨rfl, rfl, rfl⟩, (hp20.sub (.cons_cons _ (.cons _ (.cons _ (.slnil)))))⟩

theorem ents_c (tb m dl : Nat) (T : Tb) (F : Nat → Prop) (D : List (SlH × ByteArray)) (n : Nat) (w : World) (hT : TbH w tb m dl T F D 54) (hok : TbOk T D n) (hn : n ≤ 1048600) (hD : TbD T) (key : ByteArray) :
    Calls Try.prog 18 #[.pointer (some ⟨tb, 0, none⟩), .string key] w (fun r_ w' => ∃ a n c ls F2 D2, r_ = .returned (.slice a n c) ∧ EntR D2 T key ls ∧ Hp w Non [Res.own 34 5 (.slice a n c) n (List.flatMap eC ls), Res.dat F2 D2] w') := by
  have hln := (hok.sh key).2.1
  obtain ⟨es, cc, hmo⟩ := hT.sh key
  refine calls_of Try.func18 rfl 29 rfl (by simp) ?_
  have hp0 := Hp.init w
  have he0 : List.map (env0 [.pointer (some ⟨tb, 0, none⟩), .string key]) [0, 1] = [.pointer (some ⟨tb, 0, none⟩), .string key] := by kernel_rfl
  obtain ⟨b0, he0⟩ := toMk he0
  rw [he0]
  clear he0
  refine WP.seq ?_
  refine WP.pure {} [] [0, 1] [.pointer (some ⟨tb, 0, none⟩), .string key] .nil (by kernel_rfl) (fun b1 => ?_)
  refine thn_n ?_
  refine WP.seq ?_
  refine WP.seq ?_
  refine WP.pure {} [] [0, 1, 9] [.pointer (some ⟨tb, 0, none⟩), .string key, .bool false] .nil (by kernel_rfl) (fun b2 => ?_)
  refine thn_n ?_
  refine WP.condF rfl ?_
  refine WP.skip ?_
  refine thn_n ?_
  refine WP.seq ?_
  refine WP.pure {} [] [0, 1, 5] [.pointer (some ⟨tb, 0, none⟩), .string key, .slice none 0 0] .nil (by kernel_rfl) (fun b3 => ?_)
  refine thn_n ?_
  refine WP.seq ?_
  refine WP.seq ?_
  refine WP.region _ rfl (by kernel_rfl) ?_
  refine OPS.batch 6 {} [.map (some m), .map ((shK T key).map Sf.b)] [5, 15] [.slice none 0 0, .map ((shK T key).map Sf.b)] (.cons (Ld.row1 (P := Try.prog) (t := 52) (o := 1) (v := .map (some m)) (hT.fram hp0.fr).row (by kernel_rfl)) (.cons (Lk.noD (vf := vO) keyKey (by exact Try.underlying52) ((hT.fram hp0.fr).keys) key none (by kernel_rfl)) .nil)) (by kernel_rfl) (fun b4 => ?_)
  refine OPS.cons (opStep.rangeX (by exact Try.underlying56) hp0 (hmo.fram hp0.fr) (by kernel_rfl) (fun it7 w5 hp6 => ?_))
  refine OPS.nil ?_
  refine thn_n ?_
  refine WP.block ?_
  have hp8 := (show Hp w Non [Res.own 34 5 (.slice none 0 0) 0 (List.flatMap eC ([] : List En)), Res.mit it7 ((shK T key).map Sf.b) es cc ([] : List Nat)] w5 from hp6.nilOwn 34 5)
  have hp9 := hp8.datNil
  refine WP.loop (fun mz_ e10 w11 => ∃ (dn : List Nat) (xs : List En) (ao : Option Addr) (no : Nat) (co : Nat) (F2 : Nat → Prop) (D2 : List (SlH × ByteArray)), mz_ = (shO (shK T key)).length - dn.length ∧ (EnI (shO (shK T key)) dn xs D2 ∧ True) ∧ List.map e10 [5, 16] = [.slice ao no co, .pointer (some ⟨it7, 0, none⟩)] ∧ Hp w Non [Res.own 34 5 (.slice ao no co) no (List.flatMap eC xs), Res.mit it7 ((shK T key).map Sf.b) es cc dn, Res.dat F2 D2] w11) ((shO (shK T key)).length - ([]).length) ⟨[], [], none, 0, 0, (fun _ => False), [], rfl, ⟨⟨rfl, fun x hx => by cases hx⟩, trivial⟩, by kernel_rfl, ((((hp9.pull0).pull2).pull2).sub (.cons_cons _ (.cons_cons _ (.cons_cons _ (.slnil)))))⟩ ?_
  rintro _ e10 w11 ⟨dn, xs, ao, no, co, F2, D2, rfl, hI13, hE14, hp12⟩
  obtain ⟨b15, rfl⟩ := toMk hE14
  clear hE14
  obtain ⟨pa, _⟩ := hI13
  have pe := own_flat (f := eC) (sz := 5) (fun _ => rfl) (by decide) hp12.get0
  have pl := pa.len
  have pd := mit_done (Hp.get (A := []) hp12.pull1)
  have pd2 := nodup_le pd.1 pd.2
  rw [hmo.len] at pd2
  refine WP.seq ?_
  refine WP.region _ rfl (by kernel_rfl) ?_
  have hp18 := hp12.pull1
  refine OPS.cons (opStep.nextX hp18 (hmo.fram hp18.fr) (by kernel_rfl) (fun ha23 => ?_) (fun n19 p20 w16 hn21 hm22 hp17 => ?_))
  · have ha23d := mit_done (Hp.get (A := []) hp18)
    refine OPS.batch 1 {} [] [5, 16, 18] [.slice ao no co, .pointer (some ⟨it7, 0, none⟩), .bool false] .nil (by kernel_rfl) (fun b24 => ?_)
    refine OPS.nil ?_
    refine thn_n ?_
    refine WP.seq ?_
    refine WP.condF rfl ?_
    refine WP.exit ?_
    refine thn_x ?_
    refine thn_x ?_
    refine blk_hit ?_
    refine thn_n ?_
    refine WP.seq ?_
    refine WP.region _ rfl (by kernel_rfl) ?_
    refine OPS.batch 1 {} [] [5, 26] [.slice ao no co, .slice ao no co] .nil (by kernel_rfl) (fun b25 => ?_)
    have hp28 := hp18.pull1
    refine OPS.cons (opStep.call (some 27) [.slice ao no co, .func (.func 37) #[] #[]] (by kernel_rfl) (sort_ents (by omega) hp28) ?_)
    rintro _ w29 ⟨ls31, rfl, hq32, hp30⟩
    refine ⟨_, rfl, ?_⟩
    refine OPS.nil ?_
    refine thn_n ?_
    refine WP.seq ?_
    refine WP.pure {} [] [4] [.slice ao no co] .nil (by kernel_rfl) (fun b33 => ?_)
    refine thn_n ?_
    refine WP.ret ?_
    refine bodyQ.of _ rfl [.slice ao no co] ⟨rfl, trivial⟩ ?_
    have hp34 := hp30.pull2
    have hp35 := hp34.pull1
    exact ⟨_, _, _, ls31, _, _, rfl, en_all pa ha23d.1 (by rw [← hmo.len]; exact ha23d.2) ha23 hq32.1 hq32.2, (hp35.sub (.cons_cons _ (.cons_cons _ (.cons _ (.slnil)))))⟩
  · refine OPS.batch 1 {} [] [5, 16, 18] [.slice ao no co, .pointer (some ⟨it7, 0, none⟩), .bool true] .nil (by kernel_rfl) (fun b36 => ?_)
    refine OPS.nil ?_
    refine thn_n ?_
    refine WP.seq ?_
    refine WP.condT rfl ?_
    refine WP.skip ?_
    refine thn_n ?_
    refine WP.block ?_
    refine WP.seq ?_
    refine WP.region _ rfl (by kernel_rfl) ?_
    have hp39 := hp17.pull0
    refine OPS.cons (opStep.entryX hp39 (hmo.fram hp39.fr) hn21 (by kernel_rfl) ?_)
    refine OPS.batch 1 {} [] [5, 16, 20] [.slice ao no co, .pointer (some ⟨it7, 0, none⟩), GEntry.val p20.2.e] .nil (by kernel_rfl) (fun b40 => ?_)
    refine OPS.cons (opStep.alloc hp39 [.int .i64 0, .int .i64 0, .bool false, .bool false, .slice none 0 0] (by kernel_rfl) (fun g43 w41 hp42 => ?_))
    refine OPS.cons (opStep.store0 hp42 rfl [.int .i64 p20.2.e.Tag.Count, .int .i64 p20.2.e.Tag.Client, .bool p20.2.e.Fin, .bool p20.2.e.Has, .slice p20.2.e.Data.a p20.2.e.Data.n p20.2.e.Data.c] [.int .i64 p20.2.e.Tag.Count, .int .i64 p20.2.e.Tag.Client, .bool p20.2.e.Fin, .bool p20.2.e.Has, .slice p20.2.e.Data.a p20.2.e.Data.n p20.2.e.Data.c] (by kernel_rfl) (fun w44 hp45 => ?_))
    refine OPS.nil ?_
    refine thn_n ?_
    refine WP.region _ rfl (by kernel_rfl) ?_
    refine OPS.batch 2 {} [GEntry.val p20.2.e] [16, 21, 22] [.pointer (some ⟨it7, 0, none⟩), .slice ao no co, GEntry.val p20.2.e] (.cons (show Ld Try.prog w44 34 ⟨g43, 0, none⟩ (GEntry.val p20.2.e) from Ld.rowN (cs := [.int .i64 p20.2.e.Tag.Count, .int .i64 p20.2.e.Tag.Client, .bool p20.2.e.Fin, .bool p20.2.e.Has, .slice p20.2.e.Data.a p20.2.e.Data.n p20.2.e.Data.c]) hp45.get0 (by kernel_rfl)) .nil) (by kernel_rfl) (fun b46 => ?_)
    refine OPS.cons (opStep.call (some 23) [GEntry.val p20.2.e] (by kernel_rfl) (copied_c p20.2 _ ((dat_at hT.dat ((hok.sh key).2.2 p20 (List.mem_of_getElem? hn21)).2).fram hp45.fr) (Nat.le_trans (hD key p20 (List.mem_of_getElem? hn21)) (by decide))) ?_)
    rintro _ w49 ⟨e51, F52, rfl, he53, hp50⟩
    refine ⟨_, rfl, ?_⟩
    have hp54 := hp45.madeQ hp50
    simp only [List.cons_append, List.nil_append] at hp54
    refine OPS.cons (opStep.buildSlice (E := 34) hp54 [.int .i64 e51.Tag.Count, .int .i64 e51.Tag.Client, .bool e51.Fin, .bool e51.Has, .slice e51.Data.a e51.Data.n e51.Data.c] (by kernel_rfl) (fun g57 w55 hp56 => ?_))
    refine OPS.cons (opStep.append4 [.int .i64 e51.Tag.Count, .int .i64 e51.Tag.Client, .bool e51.Fin, .bool e51.Has, .slice e51.Data.a e51.Data.n e51.Data.c] hp56 48 (by kernel_rfl) rfl rfl rfl (SlR.row (n := 1) hp56.get0 rfl).rd (List.all_eq_true.1 (by kernel_rfl)) (by decide) (by omega) (by omega) (fun a60 c61 w62 hp63 hn64 => ?_))
    rw [(show List.flatMap eC xs ++ [.int .i64 e51.Tag.Count, .int .i64 e51.Tag.Client, .bool e51.Fin, .bool e51.Has, .slice e51.Data.a e51.Data.n e51.Data.c] = List.flatMap eC (xs ++ [(⟨e51, p20.2.d⟩ : En)]) from (List.flatMap_append (xs := xs) (ys := [(⟨e51, p20.2.d⟩ : En)])).symm)] at hp63
    refine OPS.batch 1 {} [] [5, 16] [.slice a60 (no + 1) c61, .pointer (some ⟨it7, 0, none⟩)] .nil (by kernel_rfl) (fun b65 => ?_)
    refine OPS.nil ?_
    refine blk_n ?_
    refine thn_n ?_
    have hp66 := hp63.pull5
    have hp67 := hp66.pull2
    have hp68 := hp67.datJoin
    have hd_ := mit_done (Hp.get (A := []) hp68.pull3)
    have hd2_ := nodup_le hd_.1 hd_.2
    rw [hmo.len] at hd2_
    exact ⟨(shO (shK T key)).length - ((dn ++ [n19])).length, (by simp only [List.length_append, List.length_cons, List.length_nil] at *; omega), (dn ++ [n19]), xs ++ [(⟨e51, p20.2.d⟩ : En)], a60, no + 1, c61, fun k => F2 k ∨ F52 k, D2 ++ [(e51.Data, p20.2.d)], rfl, ⟨en_snoc pa hn21 he53, trivial⟩, by kernel_rfl, ((((hp68.pull0).pull3).pull4).sub (.cons_cons _ (.cons_cons _ (.cons_cons _ (.cons _ (.cons _ (.slnil)))))))⟩

theorem all_c (tb m dl : Nat) (T : Tb) (F : Nat → Prop) (D : List (SlH × ByteArray)) (n : Nat) (w : World) (hT : TbH w tb m dl T F D 54) (hok : TbOk T D n) (hn : n ≤ 1048600) (hD : TbD T) :
    Calls Try.prog 12 #[.pointer (some ⟨tb, 0, none⟩)] w (fun r_ w' => ∃ a n c hs F2 D2 F3, r_ = .returned (.slice a n c) ∧ HldR T hs D2 ∧ Hp w Non [Res.own 69 2 (.slice a n c) n (List.flatMap hC hs), Res.els F3 hs, Res.dat F2 D2] w') := by
  have hsz := hok.size
  refine calls_of Try.func12 rfl 23 rfl (by simp) ?_
  have hp0 := Hp.init w
  have he0 : List.map (env0 [.pointer (some ⟨tb, 0, none⟩)]) [0] = [.pointer (some ⟨tb, 0, none⟩)] := by kernel_rfl
  obtain ⟨b0, he0⟩ := toMk he0
  rw [he0]
  clear he0
  refine WP.seq ?_
  refine WP.pure {} [] [0] [.pointer (some ⟨tb, 0, none⟩)] .nil (by kernel_rfl) (fun b1 => ?_)
  refine thn_n ?_
  refine WP.seq ?_
  refine WP.pure {} [] [0, 3] [.pointer (some ⟨tb, 0, none⟩), .slice none 0 0] .nil (by kernel_rfl) (fun b2 => ?_)
  refine thn_n ?_
  refine WP.seq ?_
  refine WP.seq ?_
  refine WP.region _ rfl (by kernel_rfl) ?_
  refine OPS.batch 1 {} [] [0, 3, 6] [.pointer (some ⟨tb, 0, none⟩), .slice none 0 0, .pointer (some ⟨tb, 0, none⟩)] .nil (by kernel_rfl) (fun b3 => ?_)
  refine OPS.cons (opStep.call (some 7) [.pointer (some ⟨tb, 0, none⟩)] (by kernel_rfl) (keys_c tb m dl T F D n _ (hT.fram hp0.fr) hok hn) ?_)
  rintro _ w6 ⟨ka, kn, kc, ks, rfl, hky, hp7⟩
  refine ⟨_, rfl, ?_⟩
  have hkl := own_flat (f := strC) (sz := 1) (fun _ => rfl) (by decide) hp7.get0
  have hkn : ks.length ≤ n := by have h_ := hky.1.length_eq; rw [List.length_map] at h_; have := hok.size; omega
  have hp8 := hp0.madeQ hp7
  simp only [List.cons_append, List.nil_append] at hp8
  refine OPS.batch 2 {} [] [0, 3, 7, 8, 9] [.pointer (some ⟨tb, 0, none⟩), .slice none 0 0, .slice ka kn kc, .int .i64 ((kn : Nat) : Int), .int .i64 0] .nil (by kernel_rfl) (fun b9 => ?_)
  refine OPS.nil ?_
  refine thn_n ?_
  refine WP.block ?_
  have hp10 := (show Hp w Non [Res.own 69 2 (.slice none 0 0) 0 (List.flatMap hC ([] : List Hd)), Res.own 9 1 (.slice ka kn kc) kn (List.flatMap strC ks)] w6 from hp8.nilOwn 69 2)
  have hp11 := hp10.datNil
  have hp12 := hp11.elsNil
  refine WP.loop (fun mz_ e13 w14 => ∃ (i : Nat) (xs : List Hd) (ao : Option Addr) (no : Nat) (co : Nat) (F2 : Nat → Prop) (D2 : List (SlH × ByteArray)) (F3 : Nat → Prop), mz_ = ks.length - i ∧ (i ≤ ks.length ∧ xs.length = i ∧ AlI T ks i xs D2) ∧ List.map e13 [0, 3, 7, 8, 9] = [.pointer (some ⟨tb, 0, none⟩), .slice ao no co, .slice ka kn kc, .int .i64 ((kn : Nat) : Int), .int .i64 (i : Int)] ∧ Hp w Non [Res.own 69 2 (.slice ao no co) no (List.flatMap hC xs), Res.els F3 xs, Res.dat F2 D2, Res.own 9 1 (.slice ka kn kc) kn (List.flatMap strC ks)] w14) (ks.length - (0)) ⟨0, [], none, 0, 0, (fun _ => False), [], (fun _ => False), rfl, ⟨Nat.zero_le _, rfl, rfl, fun y hy => by cases hy⟩, by kernel_rfl, (((((hp12.pull3).pull2).pull2).pull3).sub (.cons_cons _ (.cons_cons _ (.cons_cons _ (.cons_cons _ (.slnil))))))⟩ ?_
  rintro _ e13 w14 ⟨i, xs, ao, no, co, F2, D2, F3, rfl, hI16, hE17, hp15⟩
  obtain ⟨b18, rfl⟩ := toMk hE17
  clear hE17
  obtain ⟨pa, pb, pc⟩ := hI16
  have pe := own_flat (f := hC) (sz := 2) (fun _ => rfl) (by decide) hp15.get0
  refine WP.seq ?_
  refine WP.pure {} [] [0, 3, 7, 8, 9, 10] [.pointer (some ⟨tb, 0, none⟩), .slice ao no co, .slice ka kn kc, .int .i64 ((kn : Nat) : Int), .int .i64 (i : Int), .bool (decide ((i : Int) < ((kn : Nat) : Int)))] .nil (by kernel_rfl) (fun b19 => ?_)
  refine thn_n ?_
  refine WP.seq ?_
  refine WP.test (p := (i : Int) < ((kn : Nat) : Int)) rfl Bp.dec (fun h20 => ?_) (fun h20 => ?_)
  · refine WP.skip ?_
    refine thn_n ?_
    refine WP.seq ?_
    refine WP.block ?_
    refine WP.seq ?_
    have := own_flat (sz := 1) (fun _ => rfl) (by decide) hp15.get3
    have hy22 : (ks)[i]? = some ks[i]! := get_bang (by first | (omega) | (simp only [List.length_append, List.length_cons, List.length_nil]; omega) | (simp only [List.length_take, List.length_append, List.length_cons, List.length_nil]; omega))
    refine WP.pure {} [.string (ks[i]!)] [0, 3, 5, 7, 8, 9] [.pointer (some ⟨tb, 0, none⟩), .slice ao no co, .string (ks[i]!), .slice ka kn kc, .int .i64 ((kn : Nat) : Int), .int .i64 (i : Int)] (.cons (show InB ((i : Int)) (kn) from ⟨by omega, by omega⟩) (.cons ((SlR.own (hp15.get3)).some (by omega)) (.cons (Ld.add0 (Ld.el1 (P := Try.prog) (t := 9) (SlR.own (hp15.get3)).rd 1 (fun _ => rfl) hy22 (o := 0) (v := .string (ks[i]!)) (by kernel_rfl))) .nil))) (by kernel_rfl) (fun b23 => ?_)
    refine thn_n ?_
    refine WP.region _ rfl (by kernel_rfl) ?_
    refine OPS.batch 4 {} [] [0, 7, 8, 9, 13, 14, 15, 16] [.pointer (some ⟨tb, 0, none⟩), .slice ka kn kc, .int .i64 ((kn : Nat) : Int), .int .i64 (i : Int), .slice ao no co, .string (ks[i]!), .pointer (some ⟨tb, 0, none⟩), .string (ks[i]!)] .nil (by kernel_rfl) (fun b24 => ?_)
    refine OPS.cons (opStep.call (some 17) [.pointer (some ⟨tb, 0, none⟩), .string (ks[i]!)] (by kernel_rfl) (ents_c tb m dl T F D n _ (hT.fram hp15.fr) hok hn hD (ks[i]!)) ?_)
    rintro _ w27 ⟨a30, n31, c32, ls33, F34, D35, rfl, he36, hp28⟩
    refine ⟨_, rfl, ?_⟩
    have hp29 := hp15.madeQ hp28
    simp only [List.cons_append, List.nil_append] at hp29
    have hp37 := hp29.ownEls (ks[i]!)
    refine OPS.batch 1 {} [] [0, 7, 8, 9, 13, 18] [.pointer (some ⟨tb, 0, none⟩), .slice ka kn kc, .int .i64 ((kn : Nat) : Int), .int .i64 (i : Int), .slice ao no co, .agg #[.string (ks[i]!), .slice a30 n31 c32]] .nil (by kernel_rfl) (fun b38 => ?_)
    refine OPS.cons (opStep.buildSlice (E := 69) hp37 [.string (ks[i]!), .slice a30 n31 c32] (by kernel_rfl) (fun g41 w39 hp40 => ?_))
    refine OPS.cons (opStep.append3 [.string (ks[i]!), .slice a30 n31 c32] hp40 40 (by kernel_rfl) rfl rfl rfl (SlR.row (n := 1) hp40.get0 rfl).rd (List.all_eq_true.1 (by kernel_rfl)) (by decide) (by omega) (by omega) (fun a44 c45 w46 hp47 hn48 => ?_))
    rw [(show List.flatMap hC xs ++ [.string (ks[i]!), .slice a30 n31 c32] = List.flatMap hC (xs ++ [(⟨⟨ks[i]!, ⟨a30, n31, c32⟩⟩, ls33⟩ : Hd)]) from (List.flatMap_append (xs := xs) (ys := [(⟨⟨ks[i]!, ⟨a30, n31, c32⟩⟩, ls33⟩ : Hd)])).symm)] at hp47
    refine OPS.batch 1 {} [] [0, 3, 7, 8, 9] [.pointer (some ⟨tb, 0, none⟩), .slice a44 (no + 1) c45, .slice ka kn kc, .int .i64 ((kn : Nat) : Int), .int .i64 (i : Int)] .nil (by kernel_rfl) (fun b49 => ?_)
    refine OPS.nil ?_
    refine blk_n ?_
    refine thn_n ?_
    refine WP.pure {} [] [0, 3, 7, 8, 9] [.pointer (some ⟨tb, 0, none⟩), .slice a44 (no + 1) c45, .slice ka kn kc, .int .i64 ((kn : Nat) : Int), .int .i64 ((i : Int) + 1)] (.cons (show Rng .i64 ((i : Int) + 1) from Rng.i64 (by omega)) .nil) (by kernel_rfl) (fun b50 => ?_)
    refine thn_n ?_
    have hp51 := hp47.pull5
    have hp52 := hp51.pull3
    have hp53 := hp52.datJoin
    have hp54 := hp53.pull4
    have hp55 := hp54.pull3
    have hp56 := hp55.elsJoin
    exact ⟨ks.length - (i + 1), (by omega), i + 1, xs ++ [(⟨⟨ks[i]!, ⟨a30, n31, c32⟩⟩, ls33⟩ : Hd)], a44, no + 1, c45, fun k => F2 k ∨ F34 k, D2 ++ D35, fun k => F3 k ∨ (fun k => (Go.Value.slice a30 n31 c32).ownBlock = some k) k, rfl, ⟨by omega, by rw [List.length_append, List.length_singleton]; omega, al_snoc pc (by omega) he36 dk_right⟩, by kernel_rfl, (((((hp56.pull4).pull2).pull2).pull4).sub (.cons_cons _ (.cons_cons _ (.cons_cons _ (.cons_cons _ (.cons _ (.slnil)))))))⟩
  · refine WP.exit ?_
    refine thn_x ?_
    refine thn_x ?_
    refine blk_hit ?_
    refine thn_n ?_
    refine WP.seq ?_
    refine WP.pure {} [] [2] [.slice ao no co] .nil (by kernel_rfl) (fun b57 => ?_)
    refine thn_n ?_
    refine WP.ret ?_
    refine bodyQ.of _ rfl [.slice ao no co] ⟨rfl, trivial⟩ ?_
    have hp58 := hp15.pull2
    have hp59 := hp58.pull2
    have hp60 := hp59.pull2
    exact ⟨_, _, _, xs, F2, D2, F3, rfl, al_all pc (by omega) hky, (hp60.sub (.cons_cons _ (.cons_cons _ (.cons_cons _ (.cons _ (.slnil))))))⟩

end Go.Proofs.Ytdkgdidnknojlaa.K
namespace Go.Proofs.Ytdkgdidnknojlaa.K
open Go Go.Proofs Go.RowKit
set_option linter.unusedVariables false
set_option linter.unusedSimpArgs false
set_option maxRecDepth 20000
set_option maxHeartbeats 4000000

theorem upds_c (tb m dl : Nat) (T : Tb) (F : Nat → Prop) (D : List (SlH × ByteArray)) (n : Nat) (w : World) (hT : TbH w tb m dl T F D 54) (hok : TbOk T D n) (hn : n ≤ 1048600) (hD : TbD T) :
    Calls Try.prog 19 #[.pointer (some ⟨tb, 0, none⟩)] w (fun r_ w' => ∃ a n c us hs F2 D2 F3, r_ = .returned (.slice a n c) ∧ (HldR T hs D2 ∧ us = upsL hs) ∧ Hp w Non [Res.own 36 7 (.slice a n c) n (List.flatMap uC us), Res.els F3 hs, Res.dat F2 D2] w') := by
  have hsz := hok.size
  refine calls_of Try.func19 rfl 32 rfl (by simp) ?_
  have hp0 := Hp.init w
  have he0 : List.map (env0 [.pointer (some ⟨tb, 0, none⟩)]) [0] = [.pointer (some ⟨tb, 0, none⟩)] := by kernel_rfl
  obtain ⟨b0, he0⟩ := toMk he0
  rw [he0]
  clear he0
  refine WP.seq ?_
  refine WP.pure {} [] [0] [.pointer (some ⟨tb, 0, none⟩)] .nil (by kernel_rfl) (fun b1 => ?_)
  refine thn_n ?_
  refine WP.seq ?_
  refine WP.pure {} [] [0, 3] [.pointer (some ⟨tb, 0, none⟩), .slice none 0 0] .nil (by kernel_rfl) (fun b2 => ?_)
  refine thn_n ?_
  refine WP.seq ?_
  refine WP.seq ?_
  refine WP.region _ rfl (by kernel_rfl) ?_
  refine OPS.batch 1 {} [] [3, 8] [.slice none 0 0, .pointer (some ⟨tb, 0, none⟩)] .nil (by kernel_rfl) (fun b3 => ?_)
  refine OPS.cons (opStep.call (some 9) [.pointer (some ⟨tb, 0, none⟩)] (by kernel_rfl) (all_c tb m dl T F D n _ (hT.fram hp0.fr) hok hn hD) ?_)
  rintro _ w6 ⟨ha, hn_, hc, hs, F2, D2, F3, rfl, hal, hp7⟩
  refine ⟨_, rfl, ?_⟩
  have hhl := own_flat (f := hC) (sz := 2) (fun _ => rfl) (by decide) hp7.get0
  have hhn : hs.length ≤ n := by have h_ := hal.1.1.length_eq; rw [List.length_map, List.length_map] at h_; have := hok.size; omega
  have hyl : ∀ y ∈ hs, y.ls.length ≤ n := fun y hy => (hal.2 y hy).len hok
  have hp8 := hp0.madeQ hp7
  simp only [List.cons_append, List.nil_append] at hp8
  refine OPS.batch 2 {} [] [3, 9, 10, 11] [.slice none 0 0, .slice ha hn_ hc, .int .i64 ((hn_ : Nat) : Int), .int .i64 0] .nil (by kernel_rfl) (fun b9 => ?_)
  refine OPS.nil ?_
  refine thn_n ?_
  refine WP.block ?_
  have hp10 := (show Hp w Non [Res.own 36 7 (.slice none 0 0) 0 (List.flatMap uC ([] : List Ud)), Res.own 69 2 (.slice ha hn_ hc) hn_ (List.flatMap hC hs), Res.els F3 hs, Res.dat F2 D2] w6 from hp8.nilOwn 36 7)
  refine WP.loop (fun mz_ e11 w12 => ∃ (i : Nat) (us : List Ud) (ao : Option Addr) (no : Nat) (co : Nat), mz_ = hs.length - i ∧ (i ≤ hs.length ∧ us = upsL (hs.take i)) ∧ List.map e11 [3, 9, 10, 11] = [.slice ao no co, .slice ha hn_ hc, .int .i64 ((hn_ : Nat) : Int), .int .i64 (i : Int)] ∧ Hp w Non [Res.own 36 7 (.slice ao no co) no (List.flatMap uC us), Res.own 69 2 (.slice ha hn_ hc) hn_ (List.flatMap hC hs), Res.els F3 hs, Res.dat F2 D2] w12) (hs.length - (0)) ⟨0, [], none, 0, 0, rfl, ⟨Nat.zero_le _, rfl⟩, by kernel_rfl, hp10⟩ ?_
  rintro _ e11 w12 ⟨i, us, ao, no, co, rfl, hI14, hE15, hp13⟩
  obtain ⟨b16, rfl⟩ := toMk hE15
  clear hE15
  obtain ⟨pa, pb⟩ := hI14
  have pe := own_flat (f := uC) (sz := 7) (fun _ => rfl) (by decide) hp13.get0
  refine WP.seq ?_
  refine WP.pure {} [] [3, 9, 10, 11, 12] [.slice ao no co, .slice ha hn_ hc, .int .i64 ((hn_ : Nat) : Int), .int .i64 (i : Int), .bool (decide ((i : Int) < ((hn_ : Nat) : Int)))] .nil (by kernel_rfl) (fun b17 => ?_)
  refine thn_n ?_
  refine WP.seq ?_
  refine WP.test (p := (i : Int) < ((hn_ : Nat) : Int)) rfl Bp.dec (fun h18 => ?_) (fun h18 => ?_)
  · refine WP.skip ?_
    refine thn_n ?_
    refine WP.seq ?_
    refine WP.block ?_
    refine WP.seq ?_
    refine WP.region _ rfl (by kernel_rfl) ?_
    have := own_flat (sz := 2) (fun _ => rfl) (by decide) hp13.get1
    have hy22 : (hs)[i]? = some hs[i]! := get_bang (by first | (omega) | (simp only [List.length_append, List.length_cons, List.length_nil]; omega) | (simp only [List.length_take, List.length_append, List.length_cons, List.length_nil]; omega))
    refine OPS.batch 2 {} [GHeld.val (hs[i]!.h)] [3, 9, 10, 11, 14] [.slice ao no co, .slice ha hn_ hc, .int .i64 ((hn_ : Nat) : Int), .int .i64 (i : Int), GHeld.val (hs[i]!.h)] (.cons (show InB ((i : Int)) (hn_) from ⟨by omega, by omega⟩) (.cons ((SlR.own (hp13.get1)).some (by omega)) (.cons (Ld.add0 (Ld.elN (P := Try.prog) (t := 69) (SlR.own (hp13.get1)).rd 2 (fun _ => rfl) hy22 (o := 0) (cs := [.string (hs[i]!.h.Key), .slice (hs[i]!.h.Entries.a) (hs[i]!.h.Entries.n) (hs[i]!.h.Entries.c)]) (by kernel_rfl))) .nil))) (by kernel_rfl) (fun b23 => ?_)
    refine OPS.cons (opStep.alloc hp13 [.string ByteArray.empty, .slice none 0 0] (by kernel_rfl) (fun g26 w24 hp25 => ?_))
    refine OPS.cons (opStep.store0 hp25 rfl [.string (hs[i]!.h.Key), .slice (hs[i]!.h.Entries.a) (hs[i]!.h.Entries.n) (hs[i]!.h.Entries.c)] [.string (hs[i]!.h.Key), .slice (hs[i]!.h.Entries.a) (hs[i]!.h.Entries.n) (hs[i]!.h.Entries.c)] (by kernel_rfl) (fun w27 hp28 => ?_))
    refine OPS.nil ?_
    refine thn_n ?_
    refine WP.seq ?_
    have hym : hs[i]! ∈ hs := List.mem_of_getElem? (get_bang (by omega))
    have hyn := (els_at hp28.get3 hym).1
    have hyb := hyl _ hym
    have hul : us.length ≤ 1100000000000 := by rw [pb]; exact Nat.le_trans (ups_len (i := i) hyl) (Nat.le_trans (Nat.mul_le_mul (Nat.le_trans pa (Nat.le_trans hhn hn)) hn) (by decide))
    refine WP.pure {} [.slice (hs[i]!.h.Entries.a) (hs[i]!.h.Entries.n) (hs[i]!.h.Entries.c)] [3, 5, 9, 10, 11, 16, 17, 18] [.slice ao no co, .pointer (some ⟨g26, 0, none⟩), .slice ha hn_ hc, .int .i64 ((hn_ : Nat) : Int), .int .i64 (i : Int), .slice (hs[i]!.h.Entries.a) (hs[i]!.h.Entries.n) (hs[i]!.h.Entries.c), .int .i64 ((hs[i]!.h.Entries.n : Nat) : Int), .int .i64 0] (.cons (Ld.row1 (P := Try.prog) (t := 48) (o := 1) (v := .slice (hs[i]!.h.Entries.a) (hs[i]!.h.Entries.n) (hs[i]!.h.Entries.c)) hp28.get0 (by kernel_rfl)) .nil) (by kernel_rfl) (fun b29 => ?_)
    refine thn_n ?_
    refine WP.block ?_
    refine WP.loop (fun mz_ e30 w31 => ∃ (j : Nat) (vs : List Ud) (ap : Option Addr) (np : Nat) (cp : Nat), mz_ = hs[i]!.ls.length - j ∧ (j ≤ hs[i]!.ls.length ∧ vs = us ++ (hs[i]!.ls.take j).map (upO hs[i]!)) ∧ List.map e30 [3, 5, 9, 10, 11, 16, 17, 18] = [.slice ap np cp, .pointer (some ⟨g26, 0, none⟩), .slice ha hn_ hc, .int .i64 ((hn_ : Nat) : Int), .int .i64 (i : Int), .slice (hs[i]!.h.Entries.a) (hs[i]!.h.Entries.n) (hs[i]!.h.Entries.c), .int .i64 ((hs[i]!.h.Entries.n : Nat) : Int), .int .i64 (j : Int)] ∧ Hp w Non [Res.own 36 7 (.slice ap np cp) np (List.flatMap uC vs), Res.own 69 2 (.slice ha hn_ hc) hn_ (List.flatMap hC hs), Res.els F3 hs, Res.dat F2 D2, Res.row g26 [.string (hs[i]!.h.Key), .slice (hs[i]!.h.Entries.a) (hs[i]!.h.Entries.n) (hs[i]!.h.Entries.c)] 69] w31) (hs[i]!.ls.length - (0)) ⟨0, us, ao, no, co, rfl, ⟨Nat.zero_le _, by simp⟩, by kernel_rfl, ((((((hp28.pull0).pull4).pull4).pull4).pull4).sub (.cons_cons _ (.cons_cons _ (.cons_cons _ (.cons_cons _ (.cons_cons _ (.slnil)))))))⟩ ?_
    rintro _ e30 w31 ⟨j, vs, ap, np, cp, rfl, hI33, hE34, hp32⟩
    obtain ⟨b35, rfl⟩ := toMk hE34
    clear hE34
    obtain ⟨qa, qb⟩ := hI33
    have qe := own_flat (f := uC) (sz := 7) (fun _ => rfl) (by decide) hp32.get0
    have ql : vs.length = us.length + j := by rw [qb, List.length_append, List.length_map, List.length_take]; omega
    refine WP.seq ?_
    refine WP.pure {} [] [3, 5, 9, 10, 11, 16, 17, 18, 19] [.slice ap np cp, .pointer (some ⟨g26, 0, none⟩), .slice ha hn_ hc, .int .i64 ((hn_ : Nat) : Int), .int .i64 (i : Int), .slice (hs[i]!.h.Entries.a) (hs[i]!.h.Entries.n) (hs[i]!.h.Entries.c), .int .i64 ((hs[i]!.h.Entries.n : Nat) : Int), .int .i64 (j : Int), .bool (decide ((j : Int) < ((hs[i]!.h.Entries.n : Nat) : Int)))] .nil (by kernel_rfl) (fun b36 => ?_)
    refine thn_n ?_
    refine WP.seq ?_
    refine WP.test (p := (j : Int) < ((hs[i]!.h.Entries.n : Nat) : Int)) rfl Bp.dec (fun h37 => ?_) (fun h37 => ?_)
    · refine WP.skip ?_
      refine thn_n ?_
      refine WP.seq ?_
      refine WP.block ?_
      refine WP.seq ?_
      refine WP.region _ rfl (by kernel_rfl) ?_
      have hy41 : (hs[i]!.ls)[j]? = some (hs[i]!.ls)[j]! := get_bang (by first | (omega) | (simp only [List.length_append, List.length_cons, List.length_nil]; omega) | (simp only [List.length_take, List.length_append, List.length_cons, List.length_nil]; omega))
      refine OPS.batch 2 {} [GEntry.val ((hs[i]!.ls)[j]!.e)] [3, 5, 9, 10, 11, 16, 17, 18, 21] [.slice ap np cp, .pointer (some ⟨g26, 0, none⟩), .slice ha hn_ hc, .int .i64 ((hn_ : Nat) : Int), .int .i64 (i : Int), .slice (hs[i]!.h.Entries.a) (hs[i]!.h.Entries.n) (hs[i]!.h.Entries.c), .int .i64 ((hs[i]!.h.Entries.n : Nat) : Int), .int .i64 (j : Int), GEntry.val ((hs[i]!.ls)[j]!.e)] (.cons (show InB ((j : Int)) (hs[i]!.h.Entries.n) from ⟨by omega, by omega⟩) (.cons ((els_at hp32.get2 hym).2.some (by omega)) (.cons (Ld.add0 (Ld.elN (P := Try.prog) (t := 34) (els_at hp32.get2 hym).2.rd 5 (fun _ => rfl) hy41 (o := 0) (cs := [.int .i64 ((hs[i]!.ls)[j]!.e.Tag.Count), .int .i64 ((hs[i]!.ls)[j]!.e.Tag.Client), .bool ((hs[i]!.ls)[j]!.e.Fin), .bool ((hs[i]!.ls)[j]!.e.Has), .slice ((hs[i]!.ls)[j]!.e.Data.a) ((hs[i]!.ls)[j]!.e.Data.n) ((hs[i]!.ls)[j]!.e.Data.c)]) (by kernel_rfl))) .nil))) (by kernel_rfl) (fun b42 => ?_)
      refine OPS.cons (opStep.alloc hp32 [.int .i64 0, .int .i64 0, .bool false, .bool false, .slice none 0 0] (by kernel_rfl) (fun g45 w43 hp44 => ?_))
      refine OPS.cons (opStep.store0 hp44 rfl [.int .i64 ((hs[i]!.ls)[j]!.e.Tag.Count), .int .i64 ((hs[i]!.ls)[j]!.e.Tag.Client), .bool ((hs[i]!.ls)[j]!.e.Fin), .bool ((hs[i]!.ls)[j]!.e.Has), .slice ((hs[i]!.ls)[j]!.e.Data.a) ((hs[i]!.ls)[j]!.e.Data.n) ((hs[i]!.ls)[j]!.e.Data.c)] [.int .i64 ((hs[i]!.ls)[j]!.e.Tag.Count), .int .i64 ((hs[i]!.ls)[j]!.e.Tag.Client), .bool ((hs[i]!.ls)[j]!.e.Fin), .bool ((hs[i]!.ls)[j]!.e.Has), .slice ((hs[i]!.ls)[j]!.e.Data.a) ((hs[i]!.ls)[j]!.e.Data.n) ((hs[i]!.ls)[j]!.e.Data.c)] (by kernel_rfl) (fun w46 hp47 => ?_))
      refine OPS.nil ?_
      refine thn_n ?_
      refine WP.region _ rfl (by kernel_rfl) ?_
      refine OPS.batch 5 {} [.string (hs[i]!.h.Key), GEntry.val ((hs[i]!.ls)[j]!.e)] [5, 9, 10, 11, 16, 17, 18, 22, 26] [.pointer (some ⟨g26, 0, none⟩), .slice ha hn_ hc, .int .i64 ((hn_ : Nat) : Int), .int .i64 (i : Int), .slice (hs[i]!.h.Entries.a) (hs[i]!.h.Entries.n) (hs[i]!.h.Entries.c), .int .i64 ((hs[i]!.h.Entries.n : Nat) : Int), .int .i64 (j : Int), .slice ap np cp, .agg #[.int .i64 3, .string (hs[i]!.h.Key), .int .i64 ((hs[i]!.ls)[j]!.e.Tag.Count), .int .i64 ((hs[i]!.ls)[j]!.e.Tag.Client), .bool ((hs[i]!.ls)[j]!.e.Fin), .bool ((hs[i]!.ls)[j]!.e.Has), .slice ((hs[i]!.ls)[j]!.e.Data.a) ((hs[i]!.ls)[j]!.e.Data.n) ((hs[i]!.ls)[j]!.e.Data.c)]] (.cons (Ld.row1 (P := Try.prog) (t := 9) (o := 0) (v := .string (hs[i]!.h.Key)) hp47.get5 (by kernel_rfl)) (.cons (show Ld Try.prog w46 34 ⟨g45, 0, none⟩ (GEntry.val ((hs[i]!.ls)[j]!.e)) from Ld.rowN (cs := [.int .i64 ((hs[i]!.ls)[j]!.e.Tag.Count), .int .i64 ((hs[i]!.ls)[j]!.e.Tag.Client), .bool ((hs[i]!.ls)[j]!.e.Fin), .bool ((hs[i]!.ls)[j]!.e.Has), .slice ((hs[i]!.ls)[j]!.e.Data.a) ((hs[i]!.ls)[j]!.e.Data.n) ((hs[i]!.ls)[j]!.e.Data.c)]) hp47.get0 (by kernel_rfl)) .nil)) (by kernel_rfl) (fun b48 => ?_)
      refine OPS.cons (opStep.buildSlice (E := 36) hp47 [.int .i64 3, .string (hs[i]!.h.Key), .int .i64 ((hs[i]!.ls)[j]!.e.Tag.Count), .int .i64 ((hs[i]!.ls)[j]!.e.Tag.Client), .bool ((hs[i]!.ls)[j]!.e.Fin), .bool ((hs[i]!.ls)[j]!.e.Has), .slice ((hs[i]!.ls)[j]!.e.Data.a) ((hs[i]!.ls)[j]!.e.Data.n) ((hs[i]!.ls)[j]!.e.Data.c)] (by kernel_rfl) (fun g51 w49 hp50 => ?_))
      refine OPS.cons (opStep.append2 [.int .i64 3, .string (hs[i]!.h.Key), .int .i64 ((hs[i]!.ls)[j]!.e.Tag.Count), .int .i64 ((hs[i]!.ls)[j]!.e.Tag.Client), .bool ((hs[i]!.ls)[j]!.e.Fin), .bool ((hs[i]!.ls)[j]!.e.Has), .slice ((hs[i]!.ls)[j]!.e.Data.a) ((hs[i]!.ls)[j]!.e.Data.n) ((hs[i]!.ls)[j]!.e.Data.c)] hp50 72 (by kernel_rfl) rfl rfl rfl (SlR.row (n := 1) hp50.get0 rfl).rd (List.all_eq_true.1 (by kernel_rfl)) (by decide) (by omega) (by omega) (fun a54 c55 w56 hp57 hn58 => ?_))
      rw [(show List.flatMap uC vs ++ [.int .i64 3, .string (hs[i]!.h.Key), .int .i64 ((hs[i]!.ls)[j]!.e.Tag.Count), .int .i64 ((hs[i]!.ls)[j]!.e.Tag.Client), .bool ((hs[i]!.ls)[j]!.e.Fin), .bool ((hs[i]!.ls)[j]!.e.Has), .slice ((hs[i]!.ls)[j]!.e.Data.a) ((hs[i]!.ls)[j]!.e.Data.n) ((hs[i]!.ls)[j]!.e.Data.c)] = List.flatMap uC (vs ++ [(⟨(⟨3, hs[i]!.h.Key, (⟨(⟨(hs[i]!.ls)[j]!.e.Tag.Count, (hs[i]!.ls)[j]!.e.Tag.Client⟩ : GTag), (hs[i]!.ls)[j]!.e.Fin, (hs[i]!.ls)[j]!.e.Has, (hs[i]!.ls)[j]!.e.Data⟩ : GEntry)⟩ : GUpdate), hs[i]!.ls[j]!.d⟩ : Ud)]) from (List.flatMap_append (xs := vs) (ys := [(⟨(⟨3, hs[i]!.h.Key, (⟨(⟨(hs[i]!.ls)[j]!.e.Tag.Count, (hs[i]!.ls)[j]!.e.Tag.Client⟩ : GTag), (hs[i]!.ls)[j]!.e.Fin, (hs[i]!.ls)[j]!.e.Has, (hs[i]!.ls)[j]!.e.Data⟩ : GEntry)⟩ : GUpdate), hs[i]!.ls[j]!.d⟩ : Ud)])).symm)] at hp57
      refine OPS.batch 1 {} [] [3, 5, 9, 10, 11, 16, 17, 18] [.slice a54 (np + 1) c55, .pointer (some ⟨g26, 0, none⟩), .slice ha hn_ hc, .int .i64 ((hn_ : Nat) : Int), .int .i64 (i : Int), .slice (hs[i]!.h.Entries.a) (hs[i]!.h.Entries.n) (hs[i]!.h.Entries.c), .int .i64 ((hs[i]!.h.Entries.n : Nat) : Int), .int .i64 (j : Int)] .nil (by kernel_rfl) (fun b59 => ?_)
      refine OPS.nil ?_
      refine blk_n ?_
      refine thn_n ?_
      refine WP.pure {} [] [3, 5, 9, 10, 11, 16, 17, 18] [.slice a54 (np + 1) c55, .pointer (some ⟨g26, 0, none⟩), .slice ha hn_ hc, .int .i64 ((hn_ : Nat) : Int), .int .i64 (i : Int), .slice (hs[i]!.h.Entries.a) (hs[i]!.h.Entries.n) (hs[i]!.h.Entries.c), .int .i64 ((hs[i]!.h.Entries.n : Nat) : Int), .int .i64 ((j : Int) + 1)] (.cons (show Rng .i64 ((j : Int) + 1) from Rng.i64 (by omega)) .nil) (by kernel_rfl) (fun b60 => ?_)
      refine thn_n ?_
      exact ⟨hs[i]!.ls.length - (j + 1), (by omega), j + 1, vs ++ [(⟨(⟨3, hs[i]!.h.Key, (⟨(⟨(hs[i]!.ls)[j]!.e.Tag.Count, (hs[i]!.ls)[j]!.e.Tag.Client⟩ : GTag), (hs[i]!.ls)[j]!.e.Fin, (hs[i]!.ls)[j]!.e.Has, (hs[i]!.ls)[j]!.e.Data⟩ : GEntry)⟩ : GUpdate), hs[i]!.ls[j]!.d⟩ : Ud)], a54, np + 1, c55, rfl, ⟨by omega, by rw [qb]; exact ups_snoc (by omega)⟩, by kernel_rfl, (hp57.sub (.cons _ (.cons _ (.cons_cons _ (.cons_cons _ (.cons_cons _ (.cons_cons _ (.cons_cons _ (.slnil)))))))))⟩
    · refine WP.exit ?_
      refine thn_x ?_
      refine thn_x ?_
      refine blk_hit ?_
      refine blk_n ?_
      refine thn_n ?_
      refine WP.pure {} [] [3, 9, 10, 11] [.slice ap np cp, .slice ha hn_ hc, .int .i64 ((hn_ : Nat) : Int), .int .i64 ((i : Int) + 1)] (.cons (show Rng .i64 ((i : Int) + 1) from Rng.i64 (by omega)) .nil) (by kernel_rfl) (fun b61 => ?_)
      refine thn_n ?_
      exact ⟨hs.length - (i + 1), (by omega), i + 1, vs, ap, np, cp, rfl, ⟨by omega, by rw [qb, ups_take (by omega), List.take_of_length_le (by omega), ← pb]⟩, by kernel_rfl, (hp32.sub (.cons_cons _ (.cons_cons _ (.cons_cons _ (.cons_cons _ (.cons _ (.slnil)))))))⟩
  · refine WP.exit ?_
    refine thn_x ?_
    refine thn_x ?_
    refine blk_hit ?_
    refine thn_n ?_
    refine WP.seq ?_
    refine WP.pure {} [] [2] [.slice ao no co] .nil (by kernel_rfl) (fun b62 => ?_)
    refine thn_n ?_
    refine WP.ret ?_
    refine bodyQ.of _ rfl [.slice ao no co] ⟨rfl, trivial⟩ ?_
    have hp63 := hp13.pull3
    have hp64 := hp63.pull3
    have hp65 := hp64.pull2
    exact ⟨_, _, _, us, hs, F2, D2, F3, rfl, ⟨hal, by rw [pb, List.take_of_length_le (by omega)]⟩, (hp65.sub (.cons_cons _ (.cons_cons _ (.cons_cons _ (.cons _ (.slnil))))))⟩

end Go.Proofs.Ytdkgdidnknojlaa.K
namespace Go.Proofs.Ytdkgdidnknojlaa.K
open Go Go.RowKit
set_option linter.unusedVariables false

def HT (P : Program) (N : Nat) (ops : Array Oper) (Q : Post) (S : World → Prop) (ks : List Nat) : Nat → Array Bool → Env → World → Prop
  | 0, listed, e, w => Region.ready .any ops listed = [] ∧ Q .normal e w
  | n + 1, listed, e, w =>
    (∃ i o, ops[i]? = some o ∧ Region.free .any ops listed i = true ∧ i ∈ Region.ready .any ops listed ∧ ks.all (fun j => waitsB ops j i) = true ∧ S w ∧ ∃ b, guardB ops N e o = some b ∧
      if b then ∃ v, (∀ w', S w' → (execOp (ev e) { o with guard := none }).run P w' = .ok (.value v) w') ∧ HT P N ops Q S ks n (listed.setIfInBounds i true) (put e o.dst v) w else HT P N ops Q S ks n (listed.setIfInBounds i true) (put e o.dst undef) w) ∨
    (Region.ready .any ops listed ≠ [] ∧ ∀ j ∈ Region.ready .any ops listed, ∀ o, ops[j]? = some o → opStep P N ops Q o (fun e' w' => (ks.contains j = true ∨ S w') ∧ HT P N ops Q S ks n (listed.setIfInBounds j true) e' w') e w)
theorem HT.sound {P : Program} {N : Nat} {ops : Array Oper} {Q : Post} {S : World → Prop} {ks : List Nat} (hN : (ops.toList.all fun o => dstOk N o.dst) = true) (hs : Region.noSelect ops = true) (hQ : NoPanic Q) :
    ∀ (n : Nat) (listed : Array Bool) (e : Env) (w : World) (a : Act), Is N a e → HT P N ops Q S ks n listed e w → wpAnyK P ops (lift N Q) S ks.contains n listed a w
  | 0, listed, e, w, a, ha, h => ⟨h.1, e, ha, h.2⟩
  | n + 1, listed, e, w, a, ha, .inl ⟨i, oi, hoi, hf, hr', hks, hS, b, hg, hb⟩ => by
    have hw := QOPS.val1.wanted_of ha hg
    have hd : dstOk N oi.dst = true := by
      rw [List.all_eq_true] at hN
      exact hN oi (by have := Array.mem_of_getElem? hoi; simpa using this)
    have hx : execOp a.eval oi = execOp (ev e) { oi with guard := none } := by rw [ha.eval]; rfl
    have hKk : ∀ j oj, ops[j]? = some oj → ks.contains j = true → ∃ e ∈ oj.after, Region.binds .any e = true ∧ e.on = i := by
      intro j oj hoj hk
      have := List.all_eq_true.1 hks j (by simpa using hk)
      unfold waitsB at this
      rw [hoj] at this
      simp only [Array.any_eq_true, Bool.and_eq_true, beq_iff_eq] at this
      obtain ⟨k, hk, h1, h2⟩ := this
      exact ⟨_, Array.getElem_mem hk, h1, h2⟩
    have fin : ∀ v, YieldsIf P ops S oi v a → HT P N ops Q S ks n (listed.setIfInBounds i true) (put e oi.dst v) w → wpAnyK P ops (lift N Q) S ks.contains (n + 1) listed a w := fun v hy hn =>
      wpAnyK_first hoi (Region.noSelect_spec hs) (fun c a w ⟨e', _, hq⟩ => hQ c e' w hq) hKk n listed a w (Region.free_spec hoi hf) hr' hy hS
        (HT.sound hN hs hQ n _ _ w _ (ha.put _ _ hd) hn)
    cases b with
    | true =>
      rw [if_pos rfl] at hb
      obtain ⟨v, hv, hn⟩ := hb
      exact fin v (.inl ⟨hw, fun w' hw' => by rw [hx]; exact hv w' hw'⟩) hn
    | false =>
      rw [if_neg (by simp)] at hb
      exact fin undef (.inr ⟨hw, rfl⟩) hb
  | n + 1, listed, e, w, a, ha, .inr ⟨h0, h⟩ => by
    refine ⟨fun h => absurd h h0, fun j hj => ?_⟩
    obtain ⟨_, oi, hoi, _⟩ := mem_ready.1 hj
    have hd : dstOk N oi.dst = true := by
      rw [List.all_eq_true] at hN
      exact hN oi (by have := Array.mem_of_getElem? hoi; simpa using this)
    have h' := h j hj oi hoi a ha hd
    unfold wpOp
    simp only [hoi]
    split
    · rename_i hw
      rw [if_pos hw] at h'
      exact .inl (Oper.wp_mono (fun a' w' ⟨e', he', hn⟩ => ⟨hn.1, HT.sound hN hs hQ n _ e' w' a' he' hn.2⟩) h')
    · rename_i hw
      rw [if_neg (by simpa using hw)] at h'
      obtain ⟨e', he', hn⟩ := h'
      exact ⟨hn.1, HT.sound hN hs hQ n _ e' w _ he' hn.2⟩
theorem WP.tree {P : Program} {N : Nat} {Q : Post} {e : Env} {w : World} {id : Nat} {ops : Array Oper} (S : World → Prop) (ks : List Nat) (n : Nat) (hQ : NoPanic Q)
    (hB : (P.follows .mixedOrders, Region.noSelect ops, ops.toList.all fun o => dstOk N o.dst, Nat.beq n ops.size) = (true, true, true, true))
    (h : HT P N ops Q S ks n (Array.replicate n false) e w.drew) : WP P N (.region id ops true) Q e w := by
  simp only [Prod.mk.injEq] at hB
  obtain ⟨h1, h2, h3, h5⟩ := hB
  intro a ha
  have h5' : n = ops.size := Nat.eq_of_beq_eq_true h5
  refine wp_region_any h1 ?_
  subst h5'
  exact wpAny_of_K _ _ _ _ (HT.sound h3 h2 hQ _ _ e w.drew a ha h)
def takeOk (ops : Array Oper) (ks : List Nat) : List (Nat × Bool) → Array Bool → Bool
  | [], _ => true
  | (i, b) :: r, listed => b && Region.free .any ops listed i && (Region.ready .any ops listed).contains i && ks.all (fun j => waitsB ops j i) && takeOk ops ks r (listed.setIfInBounds i true)
def listAll : List (Nat × Bool) → Array Bool → Array Bool
  | [], l => l
  | (i, _) :: r, l => listAll r (l.setIfInBounds i true)
def QN (K : Env → World → Prop) : Post := fun x e w => match x with | .normal => K e w | _ => False
theorem QN.n {K : Env → World → Prop} {e : Env} {w : World} (h : K e w) : QN K .normal e w := h
section
variable {P : Program} {N : Nat} {ops : Array Oper} {Q : Post} {S : World → Prop} {ks : List Nat} {e : Env} {w : World} {n : Nat}
theorem HT.pre {n : Nat} : ∀ {l : List (Nat × Bool)} {listed : Array Bool} {e : Env}, takeOk ops ks l listed = true → HOPS P N ops (QN fun e w => HT P N ops Q S ks n (listAll l listed) e w) S ks l e w → HT P N ops Q S ks (l.length + n) listed e w
  | [], listed, e, _, h => by rw [show ([] : List (Nat × Bool)).length + n = n from Nat.zero_add n]; exact h
  | (i, b) :: r, listed, e, hok, h => by
    simp only [takeOk, Bool.and_eq_true] at hok
    obtain ⟨⟨⟨⟨rfl, hf⟩, hr⟩, hks⟩, hok'⟩ := hok
    have hr' : i ∈ Region.ready .any ops listed := by simpa using hr
    obtain ⟨_, oi, hoi, _⟩ := mem_ready.1 hr'
    obtain ⟨hS, b, hg, hb⟩ := h oi hoi
    rw [show ((i, true) :: r).length + n = (r.length + n) + 1 from by simp; omega]
    refine .inl ⟨i, oi, hoi, hf, hr', hks, hS, b, hg, ?_⟩
    cases b with
    | true =>
      rw [if_pos rfl] at hb ⊢
      obtain ⟨v, hv, hn⟩ := hb
      exact ⟨v, hv, HT.pre hok' hn⟩
    | false =>
      rw [if_neg (by simp)] at hb ⊢
      exact HT.pre hok' hb
theorem HT.done {listed : Array Bool} (hr : Region.ready .any ops listed = []) (h : Q .normal e w) : HT P N ops Q S ks 0 listed e w := ⟨hr, h⟩
/-- For each of these. -/
def AllR (P : Program) (N : Nat) (ops : Array Oper) (Q : Post) (S : World → Prop) (ks : List Nat) (n : Nat) (listed : Array Bool) (e : Env) (w : World) (rs : List Nat) : Prop :=
  ∀ j ∈ rs, ∀ o, ops[j]? = some o → opStep P N ops Q o (fun e' w' => (ks.contains j = true ∨ S w') ∧ HT P N ops Q S ks n (listed.setIfInBounds j true) e' w') e w
theorem AllR.nil {listed : Array Bool} : AllR P N ops Q S ks n listed e w [] := fun j hj => by simp at hj
theorem AllR.cons {listed : Array Bool} {j : Nat} {rs : List Nat} (o : Oper) (ho : ops[j]? = some o) (h : opStep P N ops Q o (fun e' w' => (ks.contains j = true ∨ S w') ∧ HT P N ops Q S ks n (listed.setIfInBounds j true) e' w') e w) (k : AllR P N ops Q S ks n listed e w rs) : AllR P N ops Q S ks n listed e w (j :: rs) := by
  intro i hi o' ho'
  rcases List.mem_cons.1 hi with rfl | hi
  · rw [ho] at ho'; cases ho'; exact h
  · exact k i hi o' ho'
theorem HT.br {listed : Array Bool} (rs : List Nat) (hr : Region.ready .any ops listed = rs) (hne : rs ≠ []) (h : AllR P N ops Q S ks n listed e w rs) : HT P N ops Q S ks (n + 1) listed e w :=
  .inr ⟨by rw [hr]; exact hne, by rw [hr]; exact h⟩
end
end Go.Proofs.Ytdkgdidnknojlaa.K
