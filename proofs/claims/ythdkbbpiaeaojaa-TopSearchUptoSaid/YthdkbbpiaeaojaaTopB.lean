/- The walks of TopB: what each function computes. -/
import Derived.Test.YthdkbbpiaeaojaaProg
import Derived.Test.YthdkbbpiaeaojaaCoreO
import Derived.Test.YthdkbbpiaeaojaaTopA
import Derived.Test.YthdkbbpiaeaojaaCoreT
import Derived.Test.YthdkbbpiaeaojaaCoreV
namespace Go.Proofs.Ythdkbbpiaeaojaa.K
open Go Go.Proofs Go.RowKit
set_option linter.unusedVariables false
set_option linter.unusedSimpArgs false
set_option maxRecDepth 20000
set_option maxHeartbeats 4000000

theorem st_step {inn : List Bool} {bs : List Int} {k n : Nat} (hn : inn.length = n) (hk : k < n) (h : bs = (inn.take k).map bitI ++ List.replicate (n - k) 0) :
    (inn[k]! = true → bs.set k 1 = (inn.take (k + 1)).map bitI ++ List.replicate (n - (k + 1)) 0) ∧ (¬ inn[k]! = true → bs = (inn.take (k + 1)).map bitI ++ List.replicate (n - (k + 1)) 0) := by
  have e : List.replicate (n - k) (0 : Int) = 0 :: List.replicate (n - (k + 1)) 0 := by rw [show n - k = (n - (k + 1)) + 1 from by omega, List.replicate_succ]
  have e2 : inn.take (k + 1) = inn.take k ++ [inn[k]!] := by rw [List.take_add_one, get_bang (by omega)]; rfl
  have e3 : ((inn.take k).map bitI).length = k := by simp; omega
  subst h
  rw [e, e2, List.map_append]
  constructor
  · intro hb
    rw [List.set_append_right _ _ (by omega), e3, Nat.sub_self, hb]
    simp [bitI]
  · intro hb
    simp [bitI, hb]

theorem top_state (l : List GCall) (n : Nat) (hn : l.length = n) (a : Option Addr) (cp : Nat) (w : World) (hs : SlR w a n (l.flatMap GCall.cells)) (hv : ∀ x ∈ l, VB w x.Value) (hr : ByR w l) (hvn : ∀ x ∈ l, x.Value.n ≤ 1048576) (hll : l.length ≤ 1048576) (inn : List Bool) (ai : Option Addr) (ni ci : Nat) (hi : SlR w ai ni (inn.flatMap (fun (y : Bool) => [Go.Value.bool y]))) (hil : inn.length = l.length) (hin : ni = l.length) (last : Int) (hl : last < (n : Int)) :
    Calls Try.prog 120 #[.slice a n cp, .slice ai ni ci, .int .i64 last] w (fun r_ w' => r_ = .returned (.string (keyT w l inn last)) ∧ Fram Non w w') := by
  have hvl : 0 ≤ last → l[last.toNat]!.Value.n ≤ 1048576 := fun q => hvn _ (List.mem_of_getElem? (get_bang (by omega)))
  refine calls_of Try.func120 rfl 38 rfl (by simp) ?_
  have hp0 := Hp.init w
  have he0 : List.map (env0 [.slice a n cp, .slice ai ni ci, .int .i64 last]) [0, 1, 2] = [.slice a n cp, .slice ai ni ci, .int .i64 last] := by kernel_rfl
  obtain ⟨b0, he0⟩ := toMk he0
  rw [he0]
  clear he0
  refine WP.seq ?_
  refine WP.pure {} [] [0, 1, 2] [.slice a n cp, .slice ai ni ci, .int .i64 last] .nil (by kernel_rfl) (fun b1 => ?_)
  refine thn_n ?_
  refine WP.seq ?_
  refine WP.region _ rfl (by kernel_rfl) ?_
  refine OPS.batch 2 {} [] [0, 1, 2, 10] [.slice a n cp, .slice ai ni ci, .int .i64 last, .int .i64 ((ni : Nat) : Int)] .nil (by kernel_rfl) (fun b2 => ?_)
  refine OPS.cons (opStep.makeSlice (f := u8c) (E := 5) (sz := 1) (bytes := 1) (n := ni) (0 : Int) hp0 (by kernel_rfl) (by decide) (by kernel_rfl) (by omega) (by unfold maxLen; omega) (fun g5 w3 hp4 => ?_))
  refine OPS.batch 1 {} [] [0, 1, 2, 7] [.slice a n cp, .slice ai ni ci, .int .i64 last, .slice (some ⟨g5, 0, none⟩) ni ni] .nil (by kernel_rfl) (fun b6 => ?_)
  refine OPS.nil ?_
  refine thn_n ?_
  refine WP.seq ?_
  refine WP.seq ?_
  refine WP.pure {} [] [0, 1, 2, 7, 13, 14] [.slice a n cp, .slice ai ni ci, .int .i64 last, .slice (some ⟨g5, 0, none⟩) ni ni, .int .i64 ((ni : Nat) : Int), .int .i64 0] .nil (by kernel_rfl) (fun b7 => ?_)
  refine thn_n ?_
  refine WP.block ?_
  refine WP.loop (fun mz_ e8 w9 => ∃ (k : Nat) (bs : List Int), mz_ = ni - k ∧ (k ≤ ni ∧ bs = (inn.take k).map bitI ++ List.replicate (ni - k) 0) ∧ List.map e8 [0, 1, 2, 7, 13, 14] = [.slice a n cp, .slice ai ni ci, .int .i64 last, .slice (some ⟨g5, 0, none⟩) ni ni, .int .i64 ((ni : Nat) : Int), .int .i64 (k : Int)] ∧ Hp w Non [Res.own 5 1 (.slice (some ⟨g5, 0, none⟩) ni ni) ni (List.flatMap u8c bs)] w9) (ni - (0)) ⟨0, List.replicate ni (0 : Int), rfl, ⟨by omega, by simp⟩, by kernel_rfl, hp4⟩ ?_
  rintro _ e8 w9 ⟨k, bs, rfl, hI11, hE12, hp10⟩
  obtain ⟨b13, rfl⟩ := toMk hE12
  clear hE12
  obtain ⟨q1, q2⟩ := hI11
  refine WP.seq ?_
  refine WP.pure {} [] [0, 1, 2, 7, 13, 14, 15] [.slice a n cp, .slice ai ni ci, .int .i64 last, .slice (some ⟨g5, 0, none⟩) ni ni, .int .i64 ((ni : Nat) : Int), .int .i64 (k : Int), .bool (decide ((k : Int) < ((ni : Nat) : Int)))] .nil (by kernel_rfl) (fun b14 => ?_)
  refine thn_n ?_
  refine WP.seq ?_
  refine WP.test (p := (k : Int) < ((ni : Nat) : Int)) rfl Bp.dec (fun h15 => ?_) (fun h15 => ?_)
  · refine WP.skip ?_
    refine thn_n ?_
    refine WP.seq ?_
    refine WP.block ?_
    refine WP.seq ?_
    refine WP.pure {} [] [0, 1, 2, 7, 8, 13, 14] [.slice a n cp, .slice ai ni ci, .int .i64 last, .slice (some ⟨g5, 0, none⟩) ni ni, .int .i64 (k : Int), .int .i64 ((ni : Nat) : Int), .int .i64 (k : Int)] .nil (by kernel_rfl) (fun b16 => ?_)
    refine thn_n ?_
    refine WP.seq ?_
    have hy18 : (inn)[k]? = some inn[k]! := get_bang (by first | (omega) | (simp only [List.length_append, List.length_cons, List.length_nil]; omega) | (simp only [List.length_take, List.length_append, List.length_cons, List.length_nil]; omega))
    refine WP.pure {} [.bool (inn[k]!)] [0, 1, 2, 7, 8, 13, 14, 20] [.slice a n cp, .slice ai ni ci, .int .i64 last, .slice (some ⟨g5, 0, none⟩) ni ni, .int .i64 (k : Int), .int .i64 ((ni : Nat) : Int), .int .i64 (k : Int), .bool (inn[k]!)] (.cons (show InB ((k : Int)) (ni) from ⟨by omega, by omega⟩) (.cons ((hi.at hp10).some (by omega)) (.cons (Ld.add0 (Ld.el1 (P := Try.prog) (t := 4) (hi.at hp10).rd 1 (fun _ => rfl) hy18 (o := 0) (v := .bool (inn[k]!)) (by kernel_rfl))) .nil))) (by kernel_rfl) (fun b19 => ?_)
    refine thn_n ?_
    refine WP.test (p := (inn[k]!) = true) rfl Bp.var (fun h20 => ?_) (fun h20 => ?_)
    · refine WP.region _ rfl (by kernel_rfl) ?_
      refine OPS.batch 3 {} [] [0, 1, 2, 7, 13, 14, 23] [.slice a n cp, .slice ai ni ci, .int .i64 last, .slice (some ⟨g5, 0, none⟩) ni ni, .int .i64 ((ni : Nat) : Int), .int .i64 (k : Int), .pointer (some ((adr (some ⟨g5, 0, none⟩)).add (k * 1)))] (.cons (show InB ((k : Int)) (ni) from ⟨by omega, by omega⟩) (.cons ((SlR.own (hp10.get0)).some (by omega)) .nil)) (by kernel_rfl) (fun b21 => ?_)
      have := own_flat (sz := 1) (fun _ => rfl) (by decide) hp10.get0
      try simp only [List.length_set] at this
      refine OPS.cons (opStep.storeOwn0 (k * 1) hp10 rfl [.int .u8 1] (by kernel_rfl) (by simp) (show k * 1 + 1 ≤ ni * 1 by omega) (fun w22 hp23 => ?_))
      have hp24 := hp23
      rw [show ow (List.flatMap u8c bs) (k * 1) [.int .u8 1] = List.flatMap u8c (bs.set k 1) from ow_flat (sz := 1) (fun _ => rfl) (by first | (omega) | (simp only [List.length_set]; omega)) 1] at hp24
      refine OPS.nil ?_
      refine blk_n ?_
      refine thn_n ?_
      refine WP.pure {} [] [0, 1, 2, 7, 13, 14] [.slice a n cp, .slice ai ni ci, .int .i64 last, .slice (some ⟨g5, 0, none⟩) ni ni, .int .i64 ((ni : Nat) : Int), .int .i64 ((k : Int) + 1)] (.cons (show Rng .i64 ((k : Int) + 1) from Rng.i64 (by omega)) .nil) (by kernel_rfl) (fun b25 => ?_)
      refine thn_n ?_
      exact ⟨ni - (k + 1), (by omega), k + 1, bs.set k 1, rfl, ⟨by omega, (st_step (n := ni) (by omega) (by omega) q2).1 h20⟩, by kernel_rfl, hp24⟩
    · refine WP.skip ?_
      refine blk_n ?_
      refine thn_n ?_
      refine WP.pure {} [] [0, 1, 2, 7, 13, 14] [.slice a n cp, .slice ai ni ci, .int .i64 last, .slice (some ⟨g5, 0, none⟩) ni ni, .int .i64 ((ni : Nat) : Int), .int .i64 ((k : Int) + 1)] (.cons (show Rng .i64 ((k : Int) + 1) from Rng.i64 (by omega)) .nil) (by kernel_rfl) (fun b26 => ?_)
      refine thn_n ?_
      exact ⟨ni - (k + 1), (by omega), k + 1, bs, rfl, ⟨by omega, (st_step (n := ni) (by omega) (by omega) q2).2 h20⟩, by kernel_rfl, hp10⟩
  · refine WP.exit ?_
    refine thn_x ?_
    refine thn_x ?_
    refine blk_hit ?_
    refine thn_n ?_
    refine WP.seq ?_
    refine WP.seq ?_
    refine WP.pure {} [] [0, 2, 7, 26] [.slice a n cp, .int .i64 last, .slice (some ⟨g5, 0, none⟩) ni ni, .bool (decide (0 ≤ last))] .nil (by kernel_rfl) (fun b27 => ?_)
    refine thn_n ?_
    refine WP.test (p := 0 ≤ last) rfl Bp.dec (fun h28 => ?_) (fun h28 => ?_)
    · have hp29 := hp10.drew
      have hy31 : (l)[(last : Int).toNat]? = some l[(last : Int).toNat]! := get_bang (by first | (omega) | (simp only [List.length_append, List.length_cons, List.length_nil]; omega) | (simp only [List.length_take, List.length_append, List.length_cons, List.length_nil]; omega))
      refine WP.held (fun w32 => Ld Try.prog w32 39 (((adr a).add ((last : Int).toNat * 11)).add 4) (.slice (l[(last : Int).toNat]!.Value.a) (l[(last : Int).toNat]!.Value.n) (l[(last : Int).toNat]!.Value.c)) ∧ True) [] [(0, true), (3, true), (4, true), (5, true), (6, true), (7, true), (1, false), (2, false), (8, false), (9, true)] (np_thn np_body) (by kernel_rfl) ?_
      refine HOPS.take 6 {} [.slice (l[(last : Int).toNat]!.Value.a) (l[(last : Int).toNat]!.Value.n) (l[(last : Int).toNat]!.Value.c)] [27, 34] [.slice (some ⟨g5, 0, none⟩) ni ni, .slice (l[(last : Int).toNat]!.Value.a) (l[(last : Int).toNat]!.Value.n) (l[(last : Int).toNat]!.Value.c)] (by kernel_rfl) ⟨(show Ld Try.prog w9.drew 39 (((adr a).add ((last : Int).toNat * 11)).add 4) (.slice (l[(last : Int).toNat]!.Value.a) (l[(last : Int).toNat]!.Value.n) (l[(last : Int).toNat]!.Value.c)) from (Ld.el1 (P := Try.prog) (t := 39) (hs.at hp29).rd 11 (fun _ => rfl) hy31 (o := 4) (v := .slice (l[(last : Int).toNat]!.Value.a) (l[(last : Int).toNat]!.Value.n) (l[(last : Int).toNat]!.Value.c)) (by kernel_rfl))), trivial⟩ (fun w33 hS34 => QB.mk (.cons (show InB (last) (n) from ⟨by omega, by omega⟩) (.cons ((hs.at hp29).some (by omega)) (.cons (hS34.1) .nil))) (by kernel_rfl)) (fun b35 => ?_)
      refine HOPS.eff _ rfl (opStep.buildSlice (E := 5) hp29 [.int .u8 2] (by kernel_rfl) (fun g38 w36 hp37 => ?_))
      refine ⟨.inr ⟨(show Ld Try.prog w36 39 (((adr a).add ((last : Int).toNat * 11)).add 4) (.slice (l[(last : Int).toNat]!.Value.a) (l[(last : Int).toNat]!.Value.n) (l[(last : Int).toNat]!.Value.c)) from (Ld.el1 (P := Try.prog) (t := 39) (hs.at hp37).rd 11 (fun _ => rfl) hy31 (o := 4) (v := .slice (l[(last : Int).toNat]!.Value.a) (l[(last : Int).toNat]!.Value.n) (l[(last : Int).toNat]!.Value.c)) (by kernel_rfl))), trivial⟩, ?_⟩
      refine HOPS.eff _ rfl (opStep.append1 [.int .u8 2] hp37 1 (by kernel_rfl) rfl rfl rfl (SlR.row (n := 1) hp37.get0 rfl).rd (List.all_eq_true.1 (by kernel_rfl)) (by decide) (by omega) (by omega) (fun a41 c42 w43 hp44 hn45 => ?_))
      rw [(show List.flatMap u8c bs ++ [.int .u8 2] = List.flatMap u8c (bs ++ [2]) from (List.flatMap_append (xs := bs) (ys := [2])).symm)] at hp44
      refine ⟨.inr ⟨(show Ld Try.prog w43 39 (((adr a).add ((last : Int).toNat * 11)).add 4) (.slice (l[(last : Int).toNat]!.Value.a) (l[(last : Int).toNat]!.Value.n) (l[(last : Int).toNat]!.Value.c)) from (Ld.el1 (P := Try.prog) (t := 39) (hs.at hp44).rd 11 (fun _ => rfl) hy31 (o := 4) (v := .slice (l[(last : Int).toNat]!.Value.a) (l[(last : Int).toNat]!.Value.n) (l[(last : Int).toNat]!.Value.c)) (by kernel_rfl))), trivial⟩, ?_⟩
      refine HOPS.eff _ rfl (opStep.appendS (A := [Res.row g38 [.int .u8 2] 5]) hp44 1 (by kernel_rfl) rfl rfl (SlR.at (hv l[(last : Int).toNat]! (List.mem_of_getElem? hy31)) hp44) (flat_n (fun _ => rfl) (bytesAt_len _ _)) (one_flat (fun _ => rfl)) (by decide) (by omega) (by omega) (fun a48 c49 w50 hp51 => ?_))
      rw [show List.flatMap u8c (bs ++ [2]) ++ List.flatMap u8c (bytesAt w (l[(last : Int).toNat]!.Value)) = List.flatMap u8c ((bs ++ [2]) ++ (bytesAt w (l[(last : Int).toNat]!.Value))) from List.flatMap_append.symm] at hp51
      simp only [List.cons_append, List.nil_append] at hp51
      refine ⟨.inr ⟨(show Ld Try.prog w50 39 (((adr a).add ((last : Int).toNat * 11)).add 4) (.slice (l[(last : Int).toNat]!.Value.a) (l[(last : Int).toNat]!.Value.n) (l[(last : Int).toNat]!.Value.c)) from (Ld.el1 (P := Try.prog) (t := 39) (hs.at hp51).rd 11 (fun _ => rfl) hy31 (o := 4) (v := .slice (l[(last : Int).toNat]!.Value.a) (l[(last : Int).toNat]!.Value.n) (l[(last : Int).toNat]!.Value.c)) (by kernel_rfl))), trivial⟩, ?_⟩
      refine HOPS.take 1 {} [] [7] [.slice a48 (ni + 1 + (l[(last : Int).toNat]!.Value.n)) c49] (by kernel_rfl) ⟨(show Ld Try.prog w50 39 (((adr a).add ((last : Int).toNat * 11)).add 4) (.slice (l[(last : Int).toNat]!.Value.a) (l[(last : Int).toNat]!.Value.n) (l[(last : Int).toNat]!.Value.c)) from (Ld.el1 (P := Try.prog) (t := 39) (hs.at hp51).rd 11 (fun _ => rfl) hy31 (o := 4) (v := .slice (l[(last : Int).toNat]!.Value.a) (l[(last : Int).toNat]!.Value.n) (l[(last : Int).toNat]!.Value.c)) (by kernel_rfl))), trivial⟩ (fun w52 hS53 => QB.mk .nil (by kernel_rfl)) (fun b54 => ?_)
      refine HOPS.nil ?_
      refine thn_n ?_
      refine WP.seq ?_
      refine WP.pure {} [.string (strOf ((bs ++ [2]) ++ (bytesAt w (l[(last : Int).toNat]!.Value))))] [6] [.string (strOf ((bs ++ [2]) ++ (bytesAt w (l[(last : Int).toNat]!.Value))))] (.cons (show Bs Try.prog w50 (.slice a48 (ni + 1 + (l[(last : Int).toNat]!.Value.n)) c49) (.string (strOf ((bs ++ [2]) ++ (bytesAt w (l[(last : Int).toNat]!.Value))))) from Bs.of (SlR.own hp51.get1) (own_flat (sz := 1) (fun _ => rfl) (by decide) hp51.get1)) .nil) (by kernel_rfl) (fun b55 => ?_)
      refine thn_n ?_
      refine WP.ret ?_
      refine bodyQ.of _ rfl [.string (strOf ((bs ++ [2]) ++ (bytesAt w (l[(last : Int).toNat]!.Value))))] ⟨rfl, trivial⟩ ?_
      have hk_ : k = inn.length := by omega
      have hb_ : bs = inn.map bitI := by rw [q2, hk_, List.take_length, show ni - inn.length = 0 from by omega]; simp
      exact ⟨by unfold keyT keyL; rw [if_pos h28, ← hb_]; simp [pack], hp51.fr⟩
    · refine WP.skip ?_
      refine thn_n ?_
      refine WP.seq ?_
      refine WP.pure {} [.string (strOf bs)] [6] [.string (strOf bs)] (.cons (show Bs Try.prog w9 (.slice (some ⟨g5, 0, none⟩) ni ni) (.string (strOf bs)) from Bs.of (SlR.own hp10.get0) (own_flat (sz := 1) (fun _ => rfl) (by decide) hp10.get0)) .nil) (by kernel_rfl) (fun b56 => ?_)
      refine thn_n ?_
      refine WP.ret ?_
      refine bodyQ.of _ rfl [.string (strOf bs)] ⟨rfl, trivial⟩ ?_
      have hk_ : k = inn.length := by omega
      have hb_ : bs = inn.map bitI := by rw [q2, hk_, List.take_length, show ni - inn.length = 0 from by omega]; simp
      exact ⟨by unfold keyT keyL; rw [if_neg h28, ← hb_]; simp [pack], hp10.fr⟩

section
variable {val val' : SlH → ByteArray} {l : List GCall} (h : ∀ i, i < l.length → val l[i]!.Value = val' l[i]!.Value)
include h
theorem expl_con {c : GCall} {j : Nat} (hj : j < l.length) (hc : c = l[j]!) {last : Int} (hl : last < (l.length : Int)) : explP val l c last ↔ explP val' l c last := by
  subst hc
  unfold explP
  split
  · rfl
  · by_cases h0 : 0 ≤ last
    · rw [get_bang (by omega)]
      simp only [Option.some.injEq, exists_eq_left', h0, true_and]
      rw [h _ (by omega), h _ hj]
    · simp [h0]
theorem fit_con {i : Nat} (hi : i < l.length) {last : Int} (hl : last < (l.length : Int)) : fitT val l last i ↔ fitT val' l last i := by
  unfold fitT; rw [expl_con h hi rfl hl]
theorem want_con {inn : List Bool} {i : Nat} (hi : i < l.length) : wantT val l inn i ↔ wantT val' l inn i := by
  unfold wantT
  constructor
  · rintro (q | ⟨j, q1, q2, q3, q4, q5, q6⟩)
    · exact .inl q
    · exact .inr ⟨j, q1, q2, q3, q4, q5, by rw [← h j q1, ← h i hi]; exact q6⟩
  · rintro (q | ⟨j, q1, q2, q3, q4, q5, q6⟩)
    · exact .inl q
    · exact .inr ⟨j, q1, q2, q3, q4, q5, by rw [h j q1, h i hi]; exact q6⟩
end
section
variable {w0 w : World} (hf : Fram Non w0 w) {l : List GCall} {n : Nat} (hn : l.length = n) {a : Option Addr} {cp : Nat} (hs : SlR w0 a n (l.flatMap GCall.cells)) (hv : ∀ x ∈ l, VB w0 x.Value) (hr : ByR w0 l) (hvn : ∀ x ∈ l, x.Value.n ≤ 1048576) (hll : l.length ≤ 1048576)
include hf hv in
theorem vals_at : ∀ i, i < l.length → valAt w l[i]!.Value = valAt w0 l[i]!.Value := fun i hi => ((hv _ (List.mem_of_getElem? (get_bang hi))).step hf).2
include hf hv hr in
theorem byr_at : ByR w l := fun x hx b hb => by rw [(hv x hx).fram hf] at hb; exact hr x hx b hb
include hf hn hs hv hr hvn hll
theorem top_fits_at (last : Int) (i : Nat) (hi : i < n) (hl : last < (n : Int)) : Calls Try.prog 101 #[.slice a n cp, .int .i64 last, .int .i64 (i : Int)] w (fun x w' => ∃ f_, x = .returned (.bool f_) ∧ Bp f_ (fitT (valAt w0) l last i) ∧ Fram Non w w') := by
  refine (top_fits l n hn a cp w (hs.fram hf) (fun x hx => ((hv x hx).step hf).1) (byr_at hf hv hr) hvn hll last i hi hl).mono ?_
  rintro _ w' ⟨f, rfl, h2, h3⟩
  exact ⟨f, rfl, Bp.of h2 (fit_con (vals_at hf hv) (by omega) (by omega)), h3⟩
theorem top_wanted_at (inn : List Bool) (ai : Option Addr) (ni ci : Nat) (hi : SlR w ai ni (inn.flatMap (fun (y : Bool) => [Go.Value.bool y]))) (hil : inn.length = l.length) (hin : ni = l.length) (i : Nat) (hi2 : i < n) : Calls Try.prog 121 #[.slice a n cp, .slice ai ni ci, .int .i64 (i : Int)] w (fun x w' => ∃ f_, x = .returned (.bool f_) ∧ Bp f_ (wantT (valAt w0) l inn i) ∧ Fram Non w w') := by
  refine (top_wanted l n hn a cp w (hs.fram hf) (fun x hx => ((hv x hx).step hf).1) (byr_at hf hv hr) hvn hll inn ai ni ci hi hil hin i hi2).mono ?_
  rintro _ w' ⟨f, rfl, h2, h3⟩
  exact ⟨f, rfl, Bp.of h2 (want_con (vals_at hf hv) (by omega)), h3⟩
theorem top_state_at (inn : List Bool) (ai : Option Addr) (ni ci : Nat) (hi : SlR w ai ni (inn.flatMap (fun (y : Bool) => [Go.Value.bool y]))) (hil : inn.length = l.length) (hin : ni = l.length) (last : Int) (hl : last < (n : Int)) : Calls Try.prog 120 #[.slice a n cp, .slice ai ni ci, .int .i64 last] w (fun x w' => x = .returned (.string (keyT w0 l inn last)) ∧ Fram Non w w') := by
  refine (top_state l n hn a cp w (hs.fram hf) (fun x hx => ((hv x hx).step hf).1) (byr_at hf hv hr) hvn hll inn ai ni ci hi hil hin last hl).mono ?_
  rintro _ w' ⟨rfl, h3⟩
  refine ⟨?_, h3⟩
  unfold keyT keyL
  by_cases h0 : 0 ≤ last
  · rw [if_pos h0, if_pos h0, (hv _ (List.mem_of_getElem? (get_bang (l := l) (i := last.toNat) (by omega)))).fram hf]
  · rw [if_neg h0, if_neg h0]
end

end Go.Proofs.Ythdkbbpiaeaojaa.K
