/- Calls copied with more behind their values: they stay; what is told of them is told of the calls. -/
import Derived.Test.YtdahgdkadfdkeaaReoD
namespace Go.Proofs.Ytdahgdkadfdkeaa.K
open Go Go.RowKit
set_option linter.unusedVariables false
def Res.vw (F : Nat → Prop) (cl : List GCall) (bs : List (List Int)) : Res :=
  ⟨F, fun w => cl.length = bs.length ∧ ∀ i, i < cl.length → F (adr cl[i]!.Value.a).block ∧ bs[i]!.length = cl[i]!.Value.n ∧ cl[i]!.Value.n + 2 ≤ cl[i]!.Value.c ∧ SlR w cl[i]!.Value.a (cl[i]!.Value.n + 2) ((bs[i]! ++ [193, 194]).flatMap u8c), by
    rintro w w' h ⟨h1, h2⟩
    refine ⟨h1, fun i hi => ?_⟩
    obtain ⟨a, b, c, d⟩ := h2 i hi
    exact ⟨a, b, c, ⟨d.rd.keep fun _ => h _ a, d.some⟩⟩⟩
section
variable {w w0 : World} {M : Nat → Prop} {L : List Res} {F : Nat → Prop} {l cl : List GCall} {bs : List (List Int)}
theorem Hp.vwNil (h : Hp w0 M L w) : Hp w0 M (Res.vw (fun _ => False) [] [] :: L) w :=
  h.new (Fram.refl _ _) _ ⟨rfl, fun i hi => by simp at hi⟩ fun b hb => by cases hb
theorem Hp.vwPush {E n c : Nat} {a : Option Addr} {ns : List Int} (x : GCall) (h : Hp w0 M (Res.own E 1 (.slice a (n + 2) c) (n + 2) ((ns ++ [193, 194]).flatMap u8c) :: Res.vw F cl bs :: L) w) (hn : ns.length = n) (hx : x.Value = ⟨a, n, c⟩) :
    Hp w0 M (Res.vw (fun k => F k ∨ (Value.slice a (n + 2) c).ownBlock = some k) (cl ++ [x]) (bs ++ [ns]) :: L) w := by
  have hap := h.apart
  rw [List.pairwise_cons, List.pairwise_cons] at hap
  obtain ⟨h1, h2, h3⟩ := hap
  have hb : (Res.own E 1 (.slice a (n + 2) c) (n + 2) ((ns ++ [193, 194]).flatMap u8c)).holds w := h.holds _ (by simp)
  have hv : (Res.vw F cl bs).holds w := h.holds (Res.vw F cl bs) (by simp)
  obtain ⟨v1, v2⟩ := hv
  have hblk : (Value.slice a (n + 2) c).ownBlock = some (adr a).block := by
    rcases hb.2 with ⟨q, q2⟩ | ⟨g, cap, cur, q, _⟩
    · omega
    · simp at q
      obtain ⟨rfl, rfl⟩ := q
      rfl
  refine ⟨h.fr, ?_, ?_, ?_⟩
  · intro r hr
    rcases List.mem_cons.1 hr with rfl | hr
    · refine ⟨by simp [v1], fun i hi => ?_⟩
      have hi' : i < cl.length + 1 := by simpa using hi
      rw [apC hi', apC (by omega), ← v1]
      by_cases hlt : i < cl.length
      · rw [if_pos hlt, if_pos hlt]
        obtain ⟨q1, q2⟩ := v2 i hlt
        exact ⟨.inl q1, q2⟩
      · rw [if_neg hlt, if_neg hlt, hx]
        exact ⟨.inr hblk, hn, own_cap hb, SlR.own hb⟩
    · exact h.holds r (by simp [hr])
  · intro r hr k hk
    rcases List.mem_cons.1 hr with rfl | hr
    · rcases hk with hk | hk
      · exact h.range (Res.vw F cl bs) (by simp) k hk
      · exact h.range (Res.own E 1 (.slice a (n + 2) c) (n + 2) ((ns ++ [193, 194]).flatMap u8c)) (by simp) k hk
    · exact h.range r (by simp [hr]) k hk
  · rw [List.pairwise_cons]
    refine ⟨fun r hr k hk hk2 => ?_, h3⟩
    rcases hk with hk | hk
    · exact h2 r hr k hk hk2
    · exact h1 r (by simp [hr]) k hk hk2
theorem vw_vb (h : (Res.vw F cl bs).holds w) {i : Nat} (hi : i < cl.length) : VB w cl[i]!.Value ∧ bytesAt w cl[i]!.Value = bs[i]! := by
  obtain ⟨_, b, _, d⟩ := h.2 i hi
  have hs : SlR w cl[i]!.Value.a cl[i]!.Value.n (bs[i]!.flatMap u8c) := by
    have := slr_take2 (f := u8c) (sz := 1) (k := cl[i]!.Value.n) (fun _ => rfl) d (by omega)
    rwa [List.take_left' b] at this
  exact ⟨(VB.mk hs b).1, bytesAt_of hs b⟩
theorem vw_mem (h : (Res.vw F cl bs).holds w) : ∀ x ∈ cl, VB w x.Value := by
  intro x hx
  obtain ⟨i, hi⟩ := List.mem_iff_getElem?.1 hx
  have hlt : i < cl.length := (List.getElem?_eq_some_iff.1 hi).1
  have := (vw_vb h hlt).1
  rw [get_bang hlt] at hi
  cases hi
  exact this
theorem vw_n (h : (Res.vw F cl bs).holds w) (hc : cpC w0 l cl bs l.length) {i : Nat} (hi : i < l.length) : cl[i]!.Value.n = l[i]!.Value.n ∧ cl[i]!.Value.n + 2 ≤ cl[i]!.Value.c ∧ bs[i]!.length = l[i]!.Value.n := by
  obtain ⟨_, b, c, _⟩ := h.2 i (by have := hc.1; omega)
  have e : bs[i]!.length = l[i]!.Value.n := by rw [(hc.2.2 i hi).2, bytesAt_len]
  exact ⟨by omega, c, e⟩
theorem vw_hvn {B : Nat} (h : (Res.vw F cl bs).holds w) (hc : cpC w0 l cl bs l.length) (hvn : ∀ x ∈ l, x.Value.n ≤ B) : ∀ x ∈ cl, x.Value.n ≤ B := by
  intro x hx
  obtain ⟨i, hi⟩ := List.mem_iff_getElem?.1 hx
  have hlt : i < cl.length := (List.getElem?_eq_some_iff.1 hi).1
  rw [get_bang hlt] at hi
  cases hi
  have hl : i < l.length := by have := hc.1; omega
  rw [(vw_n h hc hl).1]
  exact hvn _ (List.mem_of_getElem? (get_bang hl))
theorem vw_bytes (h : (Res.vw F cl bs).holds w) (hc : cpC w0 l cl bs l.length) : ∀ i, i < l.length → bytesAt w cl[i]!.Value = bytesAt w0 l[i]!.Value := fun i hi => by
  rw [(vw_vb h (by have := hc.1; omega)).2, (hc.2.2 i hi).2]
theorem vw_at (h : (Res.vw F cl bs).holds w) {i m : Nat} (hi : i < cl.length) (hm : m = cl[i]!.Value.n + 2) : SlR w cl[i]!.Value.a m ((bs[i]! ++ [193, 194]).flatMap u8c) := by
  obtain ⟨_, _, _, d⟩ := h.2 i hi
  subst hm
  exact d
theorem cpC_fwd {w' : World} {k : Nat} (hk : k ≤ l.length) (h : cpC w l cl bs k) (hf : Fram Non w w') (hv : ∀ x ∈ l, VB w x.Value) : cpC w' l cl bs k := by
  refine ⟨h.1, h.2.1, fun i hi => ⟨(h.2.2 i hi).1, ?_⟩⟩
  rw [(h.2.2 i hi).2, VB.fram (hv _ (List.mem_of_getElem? (get_bang (show i < l.length by omega)))) hf]
theorem cp_eqs {k i : Nat} (h : cpC w l cl bs k) (hi : i < k) : cl[i]!.Client = l[i]!.Client ∧ cl[i]!.Op = l[i]!.Op ∧ cl[i]!.Put = l[i]!.Put ∧ cl[i]!.Key = l[i]!.Key ∧ cl[i]!.Status = l[i]!.Status ∧ cl[i]!.From = l[i]!.From ∧ cl[i]!.To = l[i]!.To ∧ cl[i]!.Open = l[i]!.Open ∧ cl[i]!.Tag = l[i]!.Tag := by
  obtain ⟨v, e⟩ := (h.2.2 i hi).1
  rw [e]; exact ⟨rfl, rfl, rfl, rfl, rfl, rfl, rfl, rfl, rfl⟩
theorem kw_cut {E n c : Nat} {a : Option Addr} {x : GCall} (h : SlR w a (n + 1) (List.flatMap GCall.cells (cl ++ [x]))) (hn : cl.length = n) : SlR w a n (List.flatMap GCall.cells cl) := by
  have q := slr_take2 (f := GCall.cells) (sz := 11) (k := n) (fun _ => rfl) h (by omega)
  rwa [List.take_left' hn] at q
theorem ki_cut {n : Nat} {a : Option Addr} {o : List Int} {x : Int} (h : SlR w a (n + 1) (List.flatMap (fun (y : Int) => [Go.Value.int .i64 y]) (o ++ [x]))) (hn : o.length = n) : SlR w a n (List.flatMap (fun (y : Int) => [Go.Value.int .i64 y]) o) := by
  have q := slr_take2 (f := fun (y : Int) => [Go.Value.int .i64 y]) (sz := 1) (k := n) (fun _ => rfl) h (by omega)
  rwa [List.take_left' hn] at q
theorem app_last {α : Type} [Inhabited α] {l : List α} {x : α} {n : Nat} (h : l.length = n) : (l ++ [x])[n]! = x := by
  rw [apC (by omega), if_neg (by omega)]
theorem app_two {l : List Int} {n : Nat} (h : l.length = n) : (l ++ [193, 194])[n]! = 193 ∧ (l ++ [193, 194])[n + 1]! = 194 := by
  have h1 := appI_get (o := l) (g := [193, 194]) (j := 0) (by simp)
  have h2 := appI_get (o := l) (g := [193, 194]) (j := 1) (by simp)
  rw [h] at h1 h2
  exact ⟨h1, h2⟩
/-! ### the same told of the copies -/
theorem Sm.len (s : Sm l cl) : cl.length = l.length := s.1
theorem Sm.rd (s : Sm l cl) (i : Nat) : rdC cl[i]! ↔ rdC l[i]! := by obtain ⟨h, e⟩ := s.2 i; rw [e]; exact Iff.rfl
theorem Sm.ow (s : Sm l cl) (i : Nat) : ownA cl[i]! ↔ ownA l[i]! := by obtain ⟨h, e⟩ := s.2 i; rw [e]; exact Iff.rfl
theorem Sm.tag (s : Sm l cl) (i : Nat) : cl[i]!.Tag = l[i]!.Tag := by obtain ⟨h, e⟩ := s.2 i; rw [e]; rfl
theorem Sm.op (s : Sm l cl) (i : Nat) : cl[i]!.Open = l[i]!.Open := by obtain ⟨h, e⟩ := s.2 i; rw [e]; rfl
theorem Sm.fro (s : Sm l cl) (i : Nat) : cl[i]!.From = l[i]!.From := by obtain ⟨h, e⟩ := s.2 i; rw [e]; rfl
theorem Sm.clt (s : Sm l cl) (i : Nat) : cl[i]!.Client = l[i]!.Client := by obtain ⟨h, e⟩ := s.2 i; rw [e]; rfl
theorem Sm.wan (s : Sm l cl) (k : Nat) (t : GTag) : wan cl k t ↔ wan l k t := by unfold K.wan; simp only [s.rd, s.tag]
theorem Sm.knw (s : Sm l cl) (t : GTag) : knw cl t ↔ knw l t := by unfold K.knw; simp only [s.ow, s.tag, s.len]
theorem Sm.lp (s : Sm l cl) (c : Int) : ∀ k, lastP cl c k = lastP l c k
  | 0 => rfl
  | k + 1 => by unfold lastP; simp only [s.tag, s.op, s.clt, s.lp c k]
theorem Sm.asg (s : Sm l cl) (k : Nat) (i : Int) (t : GTag) : asg cl k i t ↔ asg l k i t := by unfold K.asg; simp only [s.wan, s.knw, s.lp, s.len]
theorem Sm.conf (s : Sm l cl) : Conf cl ↔ Conf l := by unfold Conf; simp only [s.asg, s.len]
theorem Sm.tk (s : Sm l cl) (i : Nat) (t : GTag) : TkP cl i t ↔ TkP l i t := by unfold TkP; simp only [s.asg, s.wan, s.ow, s.tag, s.op, s.len]
theorem Sm.good (s : Sm l cl) : GoodT cl ↔ GoodT l := by
  constructor
  · rintro ⟨a, b, c, d⟩
    simp only [s.conf, s.tk, s.wan, s.len] at a b c d
    exact ⟨a, b, c, d⟩
  · rintro ⟨a, b, c, d⟩
    refine ⟨?_, ?_, ?_, ?_⟩ <;> simp only [s.conf, s.tk, s.wan, s.len] <;> assumption
theorem Sm.byOk (s : Sm l cl) {m : TgM} {q : List Int} (h : ByOk cl m q) : ByOk l m q := by
  obtain ⟨a, b, c, d⟩ := h
  simp only [s.tk] at b c
  exact ⟨a, b, c, d⟩
theorem idxs_congr {P Q : Nat → Prop} [DecidablePred P] [DecidablePred Q] {k : Nat} (h : ∀ i, P i ↔ Q i) : idxs P k = idxs Q k := by
  unfold idxs
  congr 1
  refine List.filter_congr fun i _ => ?_
  simp only [h i]
theorem Sm.frLt (s : Sm l cl) : frLt cl = frLt l := by funext x y; unfold K.frLt; rw [s.fro, s.fro]
theorem Sm.gtR (s : Sm l cl) {Pw : GCall → Prop} {out : List Int} (hp : ∀ (c : GCall) (v : SlH), Pw (withW c v) ↔ Pw c) (h : gtR cl Pw out) : gtR l Pw out := by
  unfold K.gtR at *
  rw [s.frLt, s.len] at h
  refine ⟨?_, h.2⟩
  rw [idxs_congr (Q := gtP cl Pw) fun i => ?_]
  · exact h.1
  · obtain ⟨v, e⟩ := s.2 i
    unfold gtP
    rw [e, hp]; exact Iff.rfl
theorem Sm.byL (s : Sm l cl) {m : TgM} {q out : List Int} {n : Nat} (h : byL cl m q n out) : byL l m q n out := by
  induction h with
  | zero h => exact .zero (s.gtR (fun c v => Iff.rfl) h)
  | succ h hg ih => exact .succ ih (s.gtR (fun c v => Iff.rfl) hg)
theorem Sm.byS (s : Sm l cl) {q : List Int} {e : Int} (h : byR cl q e) : byS l q e := by
  rcases byR_spec h with ⟨a, b⟩ | ⟨a, b, c⟩ | ⟨a, b, c, m, q', d1, d2⟩
  · exact .inl ⟨fun z => a (s.fit.2 z), b⟩
  · exact .inr (.inl ⟨s.fit.1 a, fun z => b (s.good.2 z), c⟩)
  · exact .inr (.inr ⟨s.fit.1 a, s.good.1 b, c, m, q', s.byOk d1, s.byL d2⟩)
theorem byS_len {q : List Int} {e : Int} (h : byS l q e) : q.length ≤ l.length := by
  rcases h with ⟨_, _, rfl⟩ | ⟨_, _, _, rfl⟩ | ⟨hf, _, _, m, p, B, hl⟩
  · simp
  · simp
  · have hnd := byL_nodup hf B (Nat.le_refl _) hl
    have hsub : q ⊆ (List.range l.length).map (fun (i : Nat) => (i : Int)) := fun x hx => by
      obtain ⟨i, e, hi, _⟩ := byL_part hf B (Nat.le_refl _) hl hx
      rw [List.mem_map]; exact ⟨i, List.mem_range.2 hi, e.symm⟩
    have := List.Nodup.length_le_of_subset hnd hsub
    simpa using this
end
end Go.Proofs.Ytdahgdkadfdkeaa.K
