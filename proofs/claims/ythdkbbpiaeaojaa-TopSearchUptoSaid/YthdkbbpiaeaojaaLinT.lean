/- TopSearch: what the search of sherdtop remembers, and what it leaves out. -/
import Derived.Test.YthdkbbpiaeaojaaLinS
import Derived.Test.YthdkbbpiaeaojaaLinG
import Derived.Test.YthdkbbpiaeaojaaLawA
import Derived.Test.YthdkbbpiaeaojaaCoreK
namespace Go.Proofs.Ythdkbbpiaeaojaa.K
open Go Go.RowKit
set_option linter.unusedVariables false
set_option linter.unusedSimpArgs false

def partT (c : GCall) : Int := if c.Put = true ∧ c.Open = true then 1 else if c.Put = true then 2 else if 0 ≤ c.To ∧ (c.Status = 0 ∨ c.Status = 76) then 2 else 0
theorem partT_two {c : GCall} : partT c = 2 ↔ mustC c := by
  unfold partT mustC
  by_cases h1 : c.Put = true <;> by_cases h2 : c.Open = true <;> by_cases h3 : 0 ≤ c.To ∧ (c.Status = 0 ∨ c.Status = 76) <;> simp [h1, h2, h3]
theorem partT_pos {c : GCall} : 0 < partT c ↔ partC c := by
  unfold partC partT mustC
  by_cases h1 : c.Put = true <;> by_cases h2 : c.Open = true <;> by_cases h3 : 0 ≤ c.To ∧ (c.Status = 0 ∨ c.Status = 76) <;> simp [h1, h2, h3]
theorem partT_zero {c : GCall} : partT c = 0 ↔ ¬ partC c := by
  rw [← partT_pos]
  have : 0 ≤ partT c := by unfold partT; repeat' split <;> omega
  omega
theorem partT_one {c : GCall} : partT c = 1 ↔ c.Put = true ∧ c.Open = true := by
  unfold partT
  by_cases h1 : c.Put = true <;> by_cases h2 : c.Open = true <;> by_cases h3 : 0 ≤ c.To ∧ (c.Status = 0 ∨ c.Status = 76) <;> simp [h1, h2, h3]
theorem partT_bd (c : GCall) : 0 ≤ partT c ∧ partT c ≤ 2 := by unfold partT; repeat' split <;> omega
def aheadT (l : List GCall) (i j : Nat) : Prop := 0 < partT l[i]! ∧ 0 < partT l[j]! ∧ ¬ (l[i]!.Put = true ∧ l[i]!.Open = true) ∧ 0 ≤ l[i]!.To ∧ l[i]!.To < l[j]!.From
theorem bef_T {l : List GCall} {i j : Nat} (hp : partC l[i]!) : befC l i j ↔ (partT l[j]! = 2 ∧ ¬ j = i ∧ aheadT l j i) := by
  unfold befC aheadT
  rw [partT_two, partT_pos, partT_pos]
  constructor
  · rintro ⟨a, b, c, d⟩
    refine ⟨a, d, .inl a, hp, fun q => ?_, b, c⟩
    unfold mustC at a
    rcases a with a | a
    · exact a.2 q.2
    · exact a.1 q.1
  · rintro ⟨a, b, _, _, _, c, d⟩
    exact ⟨a, c, d, b⟩
def fitT (val : SlH → ByteArray) (l : List GCall) (last : Int) (i : Nat) : Prop := l[i]!.Put = true ∨ explP val l l[i]! last
def wantT (val : SlH → ByteArray) (l : List GCall) (inn : List Bool) (i : Nat) : Prop :=
  ¬ partT l[i]! = 1 ∨ ∃ j, j < l.length ∧ ¬ inn[j]! = true ∧ ¬ l[j]!.Put = true ∧ partT l[j]! = 2 ∧ l[j]!.Status = 0 ∧ val l[j]!.Value = val l[i]!.Value
def LSim (val : SlH → ByteArray) (l : List GCall) (a b : Int) : Prop := (a < 0 ↔ b < 0) ∧ (0 ≤ a → val l[a.toNat]!.Value = val l[b.toNat]!.Value)
section
variable {val : SlH → ByteArray} {l : List GCall}
theorem expl_sim {a b : Int} (h : LSim val l a b) (ha : a < (l.length : Int)) (hb : b < (l.length : Int)) {c : GCall} (k : explP val l c a) : explP val l c b := by
  unfold explP at k ⊢
  by_cases hs : c.Status = 76
  · rw [if_pos hs] at k ⊢; exact h.1.1 k
  · rw [if_neg hs] at k ⊢
    obtain ⟨h0, y, hy, e⟩ := k
    have hb0 : 0 ≤ b := by have := h.1; omega
    refine ⟨hb0, _, get_bang (by omega), ?_⟩
    rw [get_bang (by omega)] at hy
    cases hy
    rw [← h.2 h0, e]
theorem path_sim : ∀ {p A A' : List Nat}, (∀ m, m < l.length → m ∈ A → m ∈ A' ∨ ¬ mustC l[m]!) → (∀ m, m ∈ A' → m ∈ A) → LSim val l (lastOf l A) (lastOf l A') → (∀ x ∈ A, x < l.length) → PathA val l A p → PathA val l A' p
  | [], A, A', h1, h2, h3, h4, h => fun i hi hm => (h1 i hi (h i hi hm)).resolve_right fun n => n hm
  | i :: p, A, A', h1, h2, h3, h4, ⟨hd, ⟨a, b, c, d, e⟩, hp⟩ => by
    have hl := lastOf_lt h4
    have hl' := lastOf_lt (l := l) (pre := A') fun x hx => h4 x (h2 x hx)
    refine ⟨fun q => hd fun j hj hm => h2 j (q j hj hm), ⟨a, b, fun q => c (h2 i q), fun j hj hb => (h1 j hj (d j hj hb)).resolve_right fun n => n hb.1, e.imp id (expl_sim h3 hl hl')⟩, path_sim (A := A ++ [i]) ?_ ?_ ?_ ?_ hp⟩
    · intro m hm q
      rcases List.mem_append.1 q with q | q
      · exact (h1 m hm q).imp (fun z => List.mem_append.2 (.inl z)) id
      · exact .inl (List.mem_append.2 (.inr q))
    · intro m q
      rcases List.mem_append.1 q with q | q
      · exact List.mem_append.2 (.inl (h2 m q))
      · exact List.mem_append.2 (.inr q)
    · rw [lastOf_snoc, lastOf_snoc]
      split
      · exact ⟨Iff.rfl, fun _ => rfl⟩
      · exact h3
    · intro x hx
      rcases List.mem_append.1 hx with q | q
      · exact h4 x q
      · rw [List.mem_singleton.1 q]; exact a
/-- An open Put that nobody reads may be left out. -/
theorem prune {inn : List Bool} {pre : List Nat} (hin : Ins l inn pre) (hd : ¬ doneA l pre) (hn : ∀ j, j < l.length → wantT val l inn j → ∀ q, ¬ PathA val l pre (j :: q)) : ∀ n (p : List Nat), p.length ≤ n → ¬ PathA val l pre p
  | n, [], _ => hd
  | 0, _ :: _, h => by simp at h
  | n + 1, j :: q, hlen => by
    intro hp
    by_cases hw : wantT val l inn j
    · exact hn j hp.2.1.1 hw q hp
    · have h1 : partT l[j]! = 1 := Classical.byContradiction fun h => hw (.inl h)
      have hpo := partT_one.1 h1
      have hnm : ¬ mustC l[j]! := by rw [← partT_two, h1]; decide
      cases q with
      | nil =>
        refine hd fun i hi hm => ?_
        rcases List.mem_append.1 (hp.2.2 i hi hm) with z | z
        · exact z
        · rw [List.mem_singleton.1 z] at hm; exact absurd hm hnm
      | cons i r =>
        obtain ⟨_, hj, hd2, hi, hr⟩ := hp
        have hip : ¬ i ∈ pre := fun z => hi.2.2.1 (List.mem_append.2 (.inl z))
        have hput : l[i]!.Put = true := by
          refine Classical.byContradiction fun hnp => ?_
          have he := hi.2.2.2.2.resolve_left hnp
          rw [lastOf_snoc, if_pos hpo.1] at he
          have hmi : mustC l[i]! := hi.2.1.resolve_right hnp
          have hmi2 := hmi
          unfold mustC at hmi2
          obtain ⟨_, _, hst⟩ := hmi2.resolve_left fun z => hnp z.1
          unfold explP at he
          by_cases hs : l[i]!.Status = 76
          · rw [if_pos hs] at he; omega
          · rw [if_neg hs] at he
            obtain ⟨_, y, hy, e⟩ := he
            have hjl := hj.1
            rw [show ((j : Int)).toNat = j from by omega, get_bang hjl] at hy
            cases hy
            exact hw (.inr ⟨i, hi.1, fun z => hip ((hin.2.1 i hi.1).1 z), hnp, partT_two.2 hmi, hst.resolve_right hs, e.symm⟩)
        refine prune hin hd hn n (i :: r) (by simp at hlen ⊢; omega) ⟨hd, ⟨hi.1, hi.2.1, hip, fun m hm hb => ?_, .inl hput⟩, path_sim (A := pre ++ [j] ++ [i]) ?_ ?_ ?_ ?_ hr⟩
        · rcases List.mem_append.1 (hi.2.2.2.1 m hm hb) with z | z
          · exact z
          · have := hb.1; rw [List.mem_singleton.1 z] at this; exact absurd this hnm
        · intro m hm z
          simp only [List.mem_append, List.mem_singleton] at z ⊢
          rcases z with (z | z) | z
          · exact .inl (.inl z)
          · subst z; exact .inr hnm
          · exact .inl (.inr z)
        · intro m z
          simp only [List.mem_append, List.mem_singleton] at z ⊢
          exact z.imp .inl id
        · rw [lastOf_snoc, if_pos hput, lastOf_snoc, if_pos hput]
          exact ⟨Iff.rfl, fun _ => rfl⟩
        · intro x z
          simp only [List.mem_append, List.mem_singleton] at z
          rcases z with (z | z) | z
          · exact hin.2.2 x z
          · rw [z]; exact hj.1
          · rw [z]; exact hi.1
end
theorem strOf_u8 {a : List Int} (ha : ∀ x ∈ a, 0 ≤ x ∧ x < 256) : strOf a = ⟨(a.map fun x => UInt8.ofNat x.toNat).toArray⟩ ∧ (a.map fun x => UInt8.ofNat x.toNat).map (fun b => (b.toNat : Int)) = a := by
  have h2 : (a.map fun x => UInt8.ofNat x.toNat).map (fun b => (b.toNat : Int)) = a := by
    rw [List.map_map]
    have : ∀ x ∈ a, ((fun b : UInt8 => (b.toNat : Int)) ∘ fun x : Int => UInt8.ofNat x.toNat) x = x := by
      intro x hx
      have := ha x hx
      simp only [Function.comp_apply, UInt8.toNat_ofNat']
      omega
    rw [List.map_congr_left this]
    simp
  exact ⟨by rw [← strOf_data, h2], h2⟩
theorem strOf_inj {a b : List Int} (ha : ∀ x ∈ a, 0 ≤ x ∧ x < 256) (hb : ∀ x ∈ b, 0 ≤ x ∧ x < 256) (h : strOf a = strOf b) : a = b := by
  obtain ⟨h1, h2⟩ := strOf_u8 ha
  obtain ⟨h3, h4⟩ := strOf_u8 hb
  rw [h1, h3] at h
  have h5 : (a.map fun x => UInt8.ofNat x.toNat) = b.map fun x => UInt8.ofNat x.toNat := by
    have := congrArg (fun z : ByteArray => z.data.toList) h
    simpa using this
  rw [← h2, ← h4, h5]
def bitI (b : Bool) : Int := if b = true then 1 else 0
def keyL (w : World) (l : List GCall) (inn : List Bool) (last : Int) : List Int := inn.map bitI ++ (if 0 ≤ last then 2 :: bytesAt w l[last.toNat]!.Value else [])
def keyT (w : World) (l : List GCall) (inn : List Bool) (last : Int) : ByteArray := strOf (keyL w l inn last)
/-- The bytes are bytes. -/
def ByR (w : World) (l : List GCall) : Prop := ∀ x ∈ l, ∀ b ∈ bytesAt w x.Value, 0 ≤ b ∧ b < 256
theorem keyL_rng {w : World} {l : List GCall} {inn : List Bool} {last : Int} (hr : ByR w l) (hl : last < (l.length : Int)) : ∀ x ∈ keyL w l inn last, 0 ≤ x ∧ x < 256 := by
  intro x hx
  unfold keyL at hx
  rcases List.mem_append.1 hx with h | h
  · obtain ⟨b, _, rfl⟩ := List.mem_map.1 h
    unfold bitI; split <;> omega
  · split at h
    · rcases List.mem_cons.1 h with h | h
      · omega
      · exact hr _ (List.mem_of_getElem? (get_bang (by omega))) x h
    · simp at h
theorem key_inj {w : World} {l : List GCall} {inn inn' : List Bool} {last last' : Int} (hr : ByR w l) (hl : last < (l.length : Int)) (hl' : last' < (l.length : Int)) (hn : inn.length = inn'.length) (h : keyT w l inn last = keyT w l inn' last') : inn = inn' ∧ LSim (valAt w) l last last' := by
  have h1 := strOf_inj (keyL_rng hr hl) (keyL_rng hr hl') h
  unfold keyL at h1
  obtain ⟨h2, h3⟩ := List.append_inj h1 (by simp [hn])
  refine ⟨?_, ?_⟩
  · have hb : ∀ a b : Bool, bitI a = bitI b → a = b := by intro a b; cases a <;> cases b <;> simp [bitI]
    clear h1 h3 h
    induction inn generalizing inn' with
    | nil => cases inn' with
      | nil => rfl
      | cons b t => simp at hn
    | cons a s ih => cases inn' with
      | nil => simp at hn
      | cons b t =>
        simp only [List.map_cons, List.cons.injEq] at h2
        rw [hb a b h2.1, ih (by simpa using hn) h2.2]
  · by_cases a : 0 ≤ last
    · by_cases b : 0 ≤ last'
      · rw [if_pos a, if_pos b] at h3
        refine ⟨by omega, fun _ => ?_⟩
        have := (List.cons.inj h3).2
        unfold valAt
        rw [this]
      · rw [if_pos a, if_neg b] at h3; cases h3
    · by_cases b : 0 ≤ last'
      · rw [if_neg a, if_pos b] at h3; cases h3
      · exact ⟨by omega, fun z => absurd z a⟩
def VainOk (w : World) (l : List GCall) (vain : List (ByteArray × Bool)) : Prop :=
  ∀ k, mapV vain k = some true → ∀ inn pre, Ins l inn pre → keyT w l inn (lastOf l pre) = k → ∀ p, ¬ PathA (valAt w) l pre p
theorem vain_put {w : World} {l : List GCall} {vain : List (ByteArray × Bool)} {inn : List Bool} {pre : List Nat} {z : ByteArray} (h : VainOk w l vain) (hr : ByR w l) (hin : Ins l inn pre) (hz : z = keyT w l inn (lastOf l pre)) (hn : ∀ p, ¬ PathA (valAt w) l pre p) : VainOk w l (mapPut vain z true) := by
  subst hz
  intro k hk inn' pre' hin' hkey p hp
  rw [mapV_put] at hk
  by_cases e : k = keyT w l inn (lastOf l pre)
  · obtain ⟨h1, h2⟩ := key_inj hr (lastOf_lt hin'.2.2) (lastOf_lt hin.2.2) (by rw [hin'.1, hin.1]) (hkey.trans e)
    subst h1
    exact hn p (path_sim (A := pre') (fun m hm q => .inl ((hin.2.1 m hm).1 ((hin'.2.1 m hm).2 q))) (fun m q => (hin'.2.1 m (hin.2.2 m q)).1 ((hin.2.1 m (hin.2.2 m q)).2 q)) h2 hin'.2.2 hp)
  · rw [if_neg e] at hk
    exact h k hk inn' pre' hin' hkey p hp
theorem ins_nil (l : List GCall) : Ins l (List.replicate l.length false) [] := ⟨by simp, fun i hi => by simp [List.getElem!_eq_getElem?_getD, hi], by simp⟩
/-- A call's bytes, as one more of the calls' values. -/
theorem Hp.vlPushOwn {w w0 : World} {M : Nat → Prop} {L : List Res} {F : Nat → Prop} {cl : List GCall} {vs : List ByteArray} {E n c : Nat} {a : Option Addr} {ns : List Int} (x : GCall) (h : Hp w0 M (Res.own E 1 (.slice a n c) n (ns.flatMap u8c) :: Res.vl F cl vs :: L) w) (hx : x.Value = ⟨a, n, c⟩) :
    Hp w0 M (Res.vl (fun k => F k ∨ (Value.slice a n c).ownBlock = some k) (cl ++ [x]) (vs ++ [strOf ns]) :: L) w := by
  have hap := h.apart
  rw [List.pairwise_cons, List.pairwise_cons] at hap
  obtain ⟨h1, h2, h3⟩ := hap
  have hb : (Res.own E 1 (.slice a n c) n (ns.flatMap u8c)).holds w := h.holds _ (by simp)
  have hn : ns.length = n := own_flat (sz := 1) (fun _ => rfl) (by decide) hb
  have hv : (Res.vl F cl vs).holds w := h.holds (Res.vl F cl vs) (by simp)
  obtain ⟨v1, v2⟩ := hv
  have hblk : 0 < n → (Value.slice a n c).ownBlock = some (adr a).block := by
    intro h0
    rcases hb.2 with ⟨q, q2⟩ | ⟨g, cap, cur, q, _⟩
    · omega
    · simp at q
      obtain ⟨rfl, rfl⟩ := q
      rfl
  have hvb := VB.mk (s := ⟨a, n, c⟩) (SlR.own hb) hn
  refine ⟨h.fr, ?_, ?_, ?_⟩
  · intro r hr
    rcases List.mem_cons.1 hr with rfl | hr
    · refine ⟨by simp [v1], fun i hi => ?_⟩
      have hi' : i < cl.length + 1 := by simpa using hi
      rw [app_bang hi', app_bang (by omega), ← v1]
      by_cases hlt : i < cl.length
      · rw [if_pos hlt, if_pos hlt]
        obtain ⟨q1, q2, q3⟩ := v2 i hlt
        exact ⟨fun h0 => .inl (q1 h0), q2, q3⟩
      · rw [if_neg hlt, if_neg hlt, hx]
        exact ⟨fun h0 => .inr (hblk h0), hvb.1, hvb.2⟩
    · exact h.holds r (by simp [hr])
  · intro r hr k hk
    rcases List.mem_cons.1 hr with rfl | hr
    · rcases hk with hk | hk
      · exact h.range (Res.vl F cl vs) (by simp) k hk
      · exact h.range (Res.own E 1 (.slice a n c) n (ns.flatMap u8c)) (by simp) k hk
    · exact h.range r (by simp [hr]) k hk
  · rw [List.pairwise_cons]
    refine ⟨fun r hr k hk hk2 => ?_, h3⟩
    rcases hk with hk | hk
    · exact h2 r hr k hk hk2
    · exact h1 r (by simp [hr]) k hk hk2
def cpO (w0 : World) (l cl : List GCall) (vs : List ByteArray) (k : Nat) : Prop := cl.length = k ∧ vs.length = k ∧ ∀ i, i < k → (∃ h : SlH, cl[i]! = ⟨l[i]!.Client, l[i]!.Op, l[i]!.Put, l[i]!.Key, h, l[i]!.Status, l[i]!.From, l[i]!.To, l[i]!.Open, l[i]!.Tag⟩) ∧ vs[i]! = valAt w0 l[i]!.Value
theorem cpO_step {w0 : World} {l cl : List GCall} {vs : List ByteArray} {k : Nat} {x : GCall} {v : ByteArray} (h : cpO w0 l cl vs k) (h1 : ∃ h : SlH, x = ⟨l[k]!.Client, l[k]!.Op, l[k]!.Put, l[k]!.Key, h, l[k]!.Status, l[k]!.From, l[k]!.To, l[k]!.Open, l[k]!.Tag⟩) (h2 : v = valAt w0 l[k]!.Value) : cpO w0 l (cl ++ [x]) (vs ++ [v]) (k + 1) := by
  obtain ⟨a, b, c⟩ := h
  refine ⟨by simp [a], by simp [b], fun i hi => ?_⟩
  rw [app_bang (by omega), app_bang (by omega)]
  by_cases hlt : i < k
  · rw [if_pos (by omega), if_pos (by omega)]; exact c i hlt
  · obtain rfl : i = k := by omega
    rw [if_neg (by omega), if_neg (by omega)]; exact ⟨h1, h2⟩
theorem cpO_sim {w0 w : World} {l cl : List GCall} {vs : List ByteArray} {k : Nat} (h : cpO w0 l cl vs k) (hk : k = l.length) (hv : ∀ i, i < cl.length → valAt w cl[i]!.Value = vs[i]!) : SimC (valAt w0) l (valAt w) cl := by
  obtain ⟨a, b, c⟩ := h
  have e : ∀ i, i < l.length → valAt w cl[i]!.Value = valAt w0 l[i]!.Value := fun i hi => by rw [hv i (by omega), (c i (by omega)).2]
  refine ⟨by omega, fun i hi => ?_, fun i hi => ?_, fun i hi => ?_, fun i hi => ?_, fun i hi => ?_, fun i j hi hj => by rw [e i hi, e j hj]⟩ <;> (obtain ⟨v, q⟩ := (c i (by omega)).1; rw [q])
theorem one_cases {val : SlH → ByteArray} {l : List GCall} {xs : List Nat} {ok : Bool} {e : Int} (h : oneA val l xs ok e) :
    ((∃ j, j < l.length ∧ ¬ okArg l[j]!) → e = 1 ∧ ok = false ∧ xs = []) ∧ ((∀ j, j < l.length → okArg l[j]!) → 24 < cntN l l.length → e = 4 ∧ ok = false ∧ xs = []) ∧
    ((∀ j, j < l.length → okArg l[j]!) → cntN l l.length ≤ 24 → e = 0 ∧ (ok = true ↔ ∃ p, PathA val l [] p) ∧ (ok = true → Expl val l xs) ∧ (ok = false → xs = [])) := by
  rcases h with ⟨⟨j, a, b⟩, c⟩ | ⟨a, b, c⟩ | ⟨a, b, e0, c⟩
  · exact ⟨fun _ => c, fun h => absurd (h j a) b, fun h => absurd (h j a) b⟩
  · exact ⟨fun ⟨j, q, r⟩ => absurd (a j q) r, fun _ _ => c, fun _ h => by omega⟩
  · refine ⟨fun ⟨j, q, r⟩ => absurd (a j q) r, fun _ h => by omega, fun _ _ => ⟨e0, ?_⟩⟩
    rcases c with ⟨rfl, q⟩ | ⟨rfl, rfl, q⟩
    · exact ⟨⟨fun _ => ⟨xs, q.1⟩, fun _ => rfl⟩, fun _ => path_expl q.1, fun h => absurd h (by decide)⟩
    · exact ⟨⟨fun h => absurd h (by decide), fun ⟨p, hp⟩ => absurd hp (q p)⟩, fun h => absurd h (by decide), fun _ => rfl⟩
theorem VB.rowb {w : World} {b c n : Nat} {ns : List Int} {t : TypeId} {cs : List Value} (h : (Res.row b cs t).holds w) (hc : cs = ns.flatMap u8c) (hn : ns.length = n) : VB w ⟨some ⟨b, 0, none⟩, n, c⟩ ∧ valAt w ⟨some ⟨b, 0, none⟩, n, c⟩ = strOf ns :=
  VB.mk (s := ⟨some ⟨b, 0, none⟩, n, c⟩) (SlR.row h hc.symm) hn
theorem vain_nil {w : World} {l : List GCall} : VainOk w l [] := fun k hk => by simp [mapV] at hk
end Go.Proofs.Ythdkbbpiaeaojaa.K
