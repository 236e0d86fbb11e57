/- Texts of this claim, merged: what the program's functions compute, and the rules that the walks use. -/
import Derived.Test.YtdkgdidnknojlaaProg
import Derived.Test.YtdkgdidnknojlaaZ0
import Derived.Test.YtdkgdidnknojlaaZ1
import Derived.Test.YtdkgdidnknojlaaZ2
namespace Go.Proofs.Ytdkgdidnknojlaa.K
open Go Go.RowKit
section
variable {w w0 : World} {M : Nat → Prop} {L : List Res}
theorem Hp.allPerm {rs rs' : List Res} (hp : rs.Perm rs') (h : Hp w0 M (Res.all rs :: L) w) : Hp w0 M (Res.all rs' :: L) w := by
  refine Hp.turn (A := []) h (Res.all rs') ?_ ?_
  · rintro ⟨h1, h2⟩
    exact ⟨fun r hr => h1 r (hp.mem_iff.2 hr), (hp.pairwise_iff fun {x y} hxy b hb hb2 => hxy b hb2 hb).1 h2⟩
  · rintro b ⟨r, hr, hb⟩
    exact ⟨r, hp.mem_iff.2 hr, hb⟩
theorem Hp.allPop {r : Res} {rs : List Res} (h : Hp w0 M (Res.all (r :: rs) :: L) w) : Hp w0 M (r :: Res.all rs :: L) w := by
  have hap := h.apart
  rw [List.pairwise_cons] at hap
  obtain ⟨h1, h3⟩ := hap
  have hrs : (Res.all (r :: rs)).holds w := h.holds _ (by simp)
  obtain ⟨a1, a2⟩ := hrs
  rw [List.pairwise_cons] at a2
  refine ⟨h.fr, ?_, ?_, ?_⟩
  · intro s hs
    rcases List.mem_cons.1 hs with rfl | hs
    · exact a1 s (by simp)
    · rcases List.mem_cons.1 hs with rfl | hs
      · exact ⟨fun t ht => a1 t (by simp [ht]), a2.2⟩
      · exact h.holds s (by simp [hs])
  · intro s hs b hb
    rcases List.mem_cons.1 hs with rfl | hs
    · exact h.range (Res.all (s :: rs)) (by simp) b ⟨s, by simp, hb⟩
    · rcases List.mem_cons.1 hs with rfl | hs
      · obtain ⟨t, ht, hb⟩ := hb
        exact h.range (Res.all (r :: rs)) (by simp) b ⟨t, by simp [ht], hb⟩
      · exact h.range s (by simp [hs]) b hb
  · rw [List.pairwise_cons, List.pairwise_cons]
    refine ⟨fun s hs b hb hb2 => ?_, fun s hs b hb hb2 => ?_, h3⟩
    · rcases List.mem_cons.1 hs with rfl | hs
      · obtain ⟨t, ht, hb2⟩ := hb2
        exact a2.1 t ht b hb hb2
      · exact h1 s hs b ⟨r, by simp, hb⟩ hb2
    · obtain ⟨t, ht, hb⟩ := hb
      exact h1 s hs b ⟨t, by simp [ht], hb⟩ hb2
theorem Hp.allCons {r : Res} {rs : List Res} (h : Hp w0 M (r :: Res.all rs :: L) w) : Hp w0 M (Res.all (r :: rs) :: L) w :=
  h.allPush.allPerm (List.perm_append_singleton r rs)
end
theorem Hp.madeQ {w w0 w' : World} {M : Nat → Prop} {L L' : List Res} (h : Hp w0 M L w) (k : Hp w Non L' w') : Hp w0 M (L' ++ L) w' := by
  have h' := h.step k.fr
  refine ⟨h'.fr, ?_, ?_, ?_⟩
  · intro s hs
    rcases List.mem_append.1 hs with hs | hs
    · exact k.holds s hs
    · exact h'.holds s hs
  · intro s hs b hb
    rcases List.mem_append.1 hs with hs | hs
    · obtain ⟨q1, q2⟩ := k.range s hs b hb
      rcases q2 with q2 | q2
      · exact ⟨q1, .inl (Nat.le_trans h.fr.size q2)⟩
      · exact q2.elim
    · exact h'.range s hs b hb
  · rw [List.pairwise_append]
    refine ⟨k.apart, h.apart, fun r hr s hs b hb hb2 => ?_⟩
    have q1 := (h.range s hs b hb2).1
    obtain ⟨_, q2⟩ := k.range r hr b hb
    rcases q2 with q2 | q2
    · omega
    · exact q2.elim
end Go.Proofs.Ytdkgdidnknojlaa.K
namespace Go.Proofs.Ytdkgdidnknojlaa.K
open Go Go.RowKit

theorem flat_n {α : Type} {f : α → List Value} {sz m : Nat} {l : List α} (hf : ∀ x, (f x).length = sz) (h : l.length = m) : (l.flatMap f).length = m * sz := by rw [flat_len hf, h]
theorem one_flat {α : Type} {f : α → List Value} {l : List α} (h : ∀ x, (f x).all (·.oneCell') = true) : ∀ u ∈ l.flatMap f, u.oneCell' = true := by
  intro u hu
  obtain ⟨x, _, hx⟩ := List.mem_flatMap.1 hu
  exact List.all_eq_true.1 (h x) u hx
theorem ow_flat_part {α : Type} [Inhabited α] {f : α → List Value} {sz : Nat} (hf : ∀ x, (f x).length = sz) {o : Nat} {vs : List Value} (hb : o + vs.length ≤ sz) {l : List α} {i : Nat} (hi : i < l.length) (x : α) (hx : ow (f l[i]!) o vs = f x) : ow (l.flatMap f) (i * sz + o) vs = (l.set i x).flatMap f := by
  induction l generalizing i with
  | nil => simp at hi
  | cons y l ih =>
    cases i with
    | zero =>
      have hx : ow (f y) o vs = f x := hx
      rw [List.set_cons_zero, List.flatMap_cons, List.flatMap_cons, ← hx, Nat.zero_mul, Nat.zero_add]
      simp only [ow]
      rw [List.take_append_of_le_length (by rw [hf y]; omega), List.drop_append_of_le_length (by rw [hf y]; omega)]
      simp only [List.append_assoc]
    | succ i =>
      have hi' : i < l.length := by simpa using hi
      have hx' : ow (f l[i]!) o vs = f x := by simpa using hx
      rw [List.set_cons_succ, List.flatMap_cons, List.flatMap_cons, ← ih hi' hx']
      have e : (i + 1) * sz + o = (f y).length + (i * sz + o) := by rw [hf y, Nat.add_mul]; omega
      simp only [ow]
      rw [e, List.take_length_add_append, Nat.add_assoc, List.drop_length_add_append]
      simp only [List.append_assoc]
theorem addr_add2 (a : Addr) (m o : Nat) : (a.add m).add o = a.add (m + o) := by unfold Addr.add; by_cases h1 : o = 0 <;> by_cases h2 : m = 0 <;> simp [h1, h2, Nat.add_assoc]
theorem Hp.rowOwn {w w0 : World} {M : Nat → Prop} {L : List Res} {b E : Nat} (sz : Nat) (h : Hp w0 M (Res.row b [] E :: L) w) : Hp w0 M (Res.own E sz (.slice (some ⟨b, 0, none⟩) 0 0) 0 [] :: L) w := by
  refine h.turn0 _ ?_ ?_
  · intro hr
    exact ⟨by simp, .inr ⟨b, 0, #[], rfl, Nat.zero_le _, hr, Nat.le_refl _, Nat.zero_le _, by simp, by simp⟩⟩
  · intro k hk
    have : some b = some k := hk
    exact (Option.some.inj this).symm
section
variable {P : Program} {N : Nat} {ops : Array Oper} {Q : Post} {next : Env → World → Prop} {e : Env} {w w0 : World} {M : Nat → Prop} {L : List Res} {ty : TypeId} {pos : String} {af : Array Edge} {d : Nat}
def builtNone (P : Program) (t : TypeId) : Option TypeId := match P.underlying t with
  | some (.slice el) => match P.info? el with
    | some _ => some el
    | none => none
  | _ => none
theorem opStep.buildSlice0 {T E : TypeId} (hp : Hp w0 M L w) (hc : builtNone P T = some E)
    (h : ∀ b w', Hp w0 M (Res.row b [] E :: L) w' → next (upd e d (.slice (some ⟨b, 0, none⟩) 0 0)) w') :
    opStep P N ops Q ⟨some d, .buildSlice T 0 #[], ty, pos, af, none⟩ next e w := by
  unfold builtNone at hc
  split at hc
  · rename_i el hu
    split at hc
    · rename_i i hi
      simp at hc
      subst hc
      refine opStep.val (v := .slice (some ⟨w.heap.size, 0, none⟩) 0 0) (w' := w.alloc (.cells [].toArray el (0, 0))) rfl ?_ (h _ _ (hp.alloc _))
      unfold execOp
      simp [Instr.buildSlice, run_underlying hu, Result.andThen_ok, sizeOf, typeInfo, run_program, hi, Instr.fill, newRow]
      rw [show Array.range 0 = #[] from rfl, Array.map_empty]
    · simp at hc
  · simp at hc
theorem opStep.appendS {T E ty2 : TypeId} {s x : Operand} {A B : List Res} {sz n m c c0 : Nat} {a a2 : Option Addr} {xs news : List Value} (hp : Hp w0 M (A ++ Res.own E sz (.slice a n c0) n xs :: B) w)
    (bytes : Nat) (hT : appInfo P T = some (E, sz, bytes))
    (hs : ev e s = .slice a n c0) (hx : ev e x = .slice a2 m c) (hr : SlR w a2 m news) (hl : news.length = m * sz) (h1 : ∀ u ∈ news, u.oneCell' = true) (hsz : 0 < sz)
    (hb : (n + m) * bytes ≤ 140737488355328) (h63 : n + m ≤ 9223372036854775807)
    (h : ∀ a' c' w', Hp w0 M (A ++ Res.own E sz (.slice a' (n + m) c') (n + m) (xs ++ news) :: B) w' → next (upd e d (.slice a' (n + m) c')) w') :
    opStep P N ops Q ⟨some d, .call ⟨.builtin .append, #[s, x], #[T, T]⟩, ty2, pos, af, none⟩ next e w := by
  cases a2 with
  | some ad =>
    refine opStep.append hp bytes hT hs hx hl hr.rd h1 hsz hb h63 ?_
    intro v' w' hp' hnil
    obtain ⟨a', c', rfl⟩ := own_slice hp'.get
    exact h a' c' w' hp'
  | none =>
    have hm : m = 0 := by
      rcases Nat.eq_zero_or_pos m with h0 | h0
      · exact h0
      · have := hr.some h0
        simp at this
    subst hm
    have hn : news = [] := List.eq_nil_of_length_eq_zero (by rw [hl]; simp)
    subst hn
    obtain ⟨i, z, hu, hi, hz, rfl, rfl, hzs⟩ := appInfo_spec hT
    have hle : n ≤ c0 := by
      rcases hp.get.2 with ⟨hv, h0⟩ | ⟨g, cap, cur, hv, _, _, h2, _⟩
      · omega
      · simp at hv; omega
    have hrun : (Builtin.append_ #[T, T] ty2 #[.slice a n c0, .slice none 0 c]).run P w = .ok (.slice a n c0) w := by
      cases a <;> simp [Builtin.append_, run_underlying hu, sizeOf, typeInfo, hi, Builtin.lenOf, Builtin.firstCells, hle, storeCells]
    refine opStep.val (v := .slice a n c0) (w' := w) rfl ?_ (h a c0 w ?_)
    · simp [execOp, resolve, invoke, builtin, hs, hx, hrun]
    · rw [List.append_nil]; exact hp
end
end Go.Proofs.Ytdkgdidnknojlaa.K
namespace Go.Proofs.Ytdkgdidnknojlaa.K
open Go Go.RowKit
set_option linter.unusedVariables false
theorem ba_nil {d : ByteArray} (h : d.size = 0) : d = ⟨#[]⟩ := by
  cases d with | mk a =>
  have : a.size = 0 := h
  rw [Array.eq_empty_of_size_eq_zero this]
def Dk (D : List (SlH × ByteArray)) (h : SlH) (d : ByteArray) : Prop := (h, d) ∈ D ∨ (h.n = 0 ∧ d = ⟨#[]⟩)
theorem Dk.more {D X : List (SlH × ByteArray)} {h : SlH} {d : ByteArray} (k : Dk D h d) : Dk (D ++ X) h d := k.imp (fun q => List.mem_append_left _ q) id
theorem Dk.last {D : List (SlH × ByteArray)} {h : SlH} {d : ByteArray} : Dk (D ++ [(h, d)]) h d := .inl (by simp)
theorem Dk.nil {D : List (SlH × ByteArray)} : Dk D ⟨none, 0, 0⟩ ⟨#[]⟩ := .inr ⟨rfl, rfl⟩
def Bt (w : World) (h : SlH) (d : ByteArray) : Prop := h.n = d.size ∧ SlR w h.a h.n ((bytesI d).flatMap u8c)
theorem Bt.fram {w w' : World} {h : SlH} {d : ByteArray} (k : Bt w h d) (hf : Fram Non w w') : Bt w' h d := ⟨k.1, SlR.fram k.2 hf⟩
theorem bt_nil (w : World) (a : Option Addr) (c : Nat) : Bt w ⟨a, 0, c⟩ ⟨#[]⟩ := ⟨rfl, fun j u hu => by simp [bytesI] at hu, fun q => absurd q (by simp)⟩
theorem slr_keepB {w w' : World} {a : Option Addr} {n : Nat} {f : Int → List Value} {l : List Int} (h : SlR w a n (l.flatMap f)) (hn : n = l.length) (hf : 0 < n → w'.heap[(adr a).block]? = w.heap[(adr a).block]?) : SlR w' a n (l.flatMap f) := by
  refine ⟨?_, h.some⟩
  rcases Nat.eq_zero_or_pos n with h0 | h0
  · have : l = [] := List.eq_nil_of_length_eq_zero (by omega)
    rw [this]
    intro j u hu
    simp at hu
  · exact h.rd.keep fun _ => hf h0
def Res.dat (F : Nat → Prop) (D : List (SlH × ByteArray)) : Res :=
  ⟨F, fun w => ∀ p ∈ D, Bt w p.1 p.2 ∧ (0 < p.1.n → F (adr p.1.a).block), fun h hw p hp => by
    obtain ⟨⟨h1, h2⟩, h3⟩ := hw p hp
    exact ⟨⟨h1, slr_keepB h2 (by rw [bytesI_len, h1]) fun q => h _ (h3 q)⟩, h3⟩⟩
theorem dat_at {w : World} {F : Nat → Prop} {D : List (SlH × ByteArray)} {h : SlH} {d : ByteArray} (hd : (Res.dat F D).holds w) (hk : Dk D h d) : Bt w h d := by
  rcases hk with hk | ⟨h1, h2⟩
  · exact (hd _ hk).1
  · subst h2
    obtain ⟨a, n, c⟩ := h
    have h1 : n = 0 := h1
    subst h1
    exact bt_nil w a c
theorem dat_fram {w w' : World} {F : Nat → Prop} {D : List (SlH × ByteArray)} (hd : (Res.dat F D).holds w) (hf : Fram Non w w') : (Res.dat F D).holds w' := fun p hp => ⟨(hd p hp).1.fram hf, (hd p hp).2⟩
section
variable {w w0 : World} {M : Nat → Prop} {L : List Res} {F G : Nat → Prop} {D X : List (SlH × ByteArray)}
theorem Hp.datNil (h : Hp w0 M L w) : Hp w0 M (Res.dat (fun _ => False) [] :: L) w :=
  h.new (Fram.refl _ _) _ (fun p hp => by cases hp) fun b hb => by cases hb
theorem Hp.datJoin (h : Hp w0 M (Res.dat G X :: Res.dat F D :: L) w) : Hp w0 M (Res.dat (fun k => F k ∨ G k) (D ++ X) :: L) w := by
  have hap := h.apart
  rw [List.pairwise_cons, List.pairwise_cons] at hap
  obtain ⟨h1, h2, h3⟩ := hap
  have hb : (Res.dat G X).holds w := h.holds _ (by simp)
  have hv : (Res.dat F D).holds w := h.holds (Res.dat F D) (by simp)
  refine ⟨h.fr, ?_, ?_, ?_⟩
  · intro r hr
    rcases List.mem_cons.1 hr with rfl | hr
    · intro p hp
      rcases List.mem_append.1 hp with q | q
      · exact ⟨(hv p q).1, fun z => .inl ((hv p q).2 z)⟩
      · exact ⟨(hb p q).1, fun z => .inr ((hb p q).2 z)⟩
    · exact h.holds r (by simp [hr])
  · intro r hr k hk
    rcases List.mem_cons.1 hr with rfl | hr
    · rcases hk with hk | hk
      · exact h.range (Res.dat F D) (by simp) k hk
      · exact h.range (Res.dat G X) (by simp) k hk
    · exact h.range r (by simp [hr]) k hk
  · rw [List.pairwise_cons]
    refine ⟨fun r hr k hk hk2 => ?_, h3⟩
    rcases hk with hk | hk
    · exact h2 r hr k hk hk2
    · exact h1 r (by simp [hr]) k hk hk2
theorem own_adrB {E : TypeId} {n c : Nat} {a : Option Addr} {xs : List Value} (h : (Res.own E 1 (.slice a n c) n xs).holds w) (h0 : 0 < n) : (Value.slice a n c).ownBlock = some (adr a).block := by
  rcases h.2 with ⟨q1, q2⟩ | ⟨g, cap, cur, q1, _⟩
  · omega
  · have : a = some ⟨g, 0, none⟩ := by simp at q1; exact q1.1
    rw [q1, this]; rfl
/-- Bytes of one's own are written no more. -/
theorem Hp.ownDat {E : TypeId} {n c : Nat} {a : Option Addr} {d : ByteArray} (h : Hp w0 M (Res.own E 1 (.slice a n c) n ((bytesI d).flatMap u8c) :: L) w) : Hp w0 M (Res.dat (fun k => (Value.slice a n c).ownBlock = some k) [(⟨a, n, c⟩, d)] :: L) w := by
  refine h.turn0 _ ?_ fun b hb => hb
  intro hr p hp
  rw [List.mem_singleton] at hp
  subst hp
  have := own_flat (f := u8c) (sz := 1) (fun _ => rfl) (by decide) hr
  rw [bytesI_len] at this
  exact ⟨⟨this.symm, SlR.own hr⟩, fun q => own_adrB hr q⟩
theorem Hp.noDat {n c : Nat} {a : Option Addr} {d : ByteArray} (h : Hp w0 M L w) (hn : n = 0) (hd : d.size = 0) : Hp w0 M (Res.dat (fun _ => False) [(⟨a, n, c⟩, d)] :: L) w := by
  subst hn
  rw [ba_nil hd]
  refine h.new (Fram.refl _ _) _ (fun p hp => ?_) fun b hb => by cases hb
  rw [List.mem_singleton] at hp
  subst hp
  exact ⟨bt_nil w a c, fun q => absurd q (by simp)⟩
end
end Go.Proofs.Ytdkgdidnknojlaa.K
namespace Go.Proofs.Ytdkgdidnknojlaa.K
open Go Go.Proofs Go.RowKit
set_option linter.unusedVariables false
set_option linter.unusedSimpArgs false
set_option maxRecDepth 20000
set_option maxHeartbeats 4000000

structure GEntry where
  Tag : GTag
  Fin : Bool
  Has : Bool
  Data : SlH
def GEntry.cells (x : GEntry) : List Go.Value := [.int .i64 x.Tag.Count, .int .i64 x.Tag.Client, .bool x.Fin, .bool x.Has, x.Data.v]
def GEntry.val (x : GEntry) : Go.Value := .agg x.cells.toArray
instance : Inhabited GEntry := ⟨⟨default, false, false, ⟨none, 0, 0⟩⟩⟩
theorem GEntry.len (x : GEntry) : x.cells.length = 5 := rfl
structure GUpdate where
  Kind : Int
  Key : ByteArray
  Entry : GEntry
def GUpdate.cells (x : GUpdate) : List Go.Value := [.int .i64 x.Kind, .string x.Key, .int .i64 x.Entry.Tag.Count, .int .i64 x.Entry.Tag.Client, .bool x.Entry.Fin, .bool x.Entry.Has, x.Entry.Data.v]
def GUpdate.val (x : GUpdate) : Go.Value := .agg x.cells.toArray
instance : Inhabited GUpdate := ⟨⟨0, ByteArray.empty, default⟩⟩
theorem GUpdate.len (x : GUpdate) : x.cells.length = 7 := rfl
structure GHeld where
  Key : ByteArray
  Entries : SlH
def GHeld.cells (x : GHeld) : List Go.Value := [.string x.Key, x.Entries.v]
def GHeld.val (x : GHeld) : Go.Value := .agg x.cells.toArray
instance : Inhabited GHeld := ⟨⟨ByteArray.empty, ⟨none, 0, 0⟩⟩⟩
theorem GHeld.len (x : GHeld) : x.cells.length = 2 := rfl
structure Gsherdtop_cell where
  key : ByteArray
  e : GEntry
def Gsherdtop_cell.cells (x : Gsherdtop_cell) : List Go.Value := [.string x.key, .int .i64 x.e.Tag.Count, .int .i64 x.e.Tag.Client, .bool x.e.Fin, .bool x.e.Has, x.e.Data.v]
def Gsherdtop_cell.val (x : Gsherdtop_cell) : Go.Value := .agg x.cells.toArray
instance : Inhabited Gsherdtop_cell := ⟨⟨ByteArray.empty, default⟩⟩
theorem Gsherdtop_cell.len (x : Gsherdtop_cell) : x.cells.length = 6 := rfl
structure Gsherdtop_shelf where
  delta : Int
  cells_ : SlH
def Gsherdtop_shelf.cells (x : Gsherdtop_shelf) : List Go.Value := [.int .i64 x.delta, x.cells_.v]
def Gsherdtop_shelf.val (x : Gsherdtop_shelf) : Go.Value := .agg x.cells.toArray
instance : Inhabited Gsherdtop_shelf := ⟨⟨0, ⟨none, 0, 0⟩⟩⟩
theorem Gsherdtop_shelf.len (x : Gsherdtop_shelf) : x.cells.length = 2 := rfl
instance : DecidableEq GTag := fun a b => decidable_of_iff (a.Count = b.Count ∧ a.Client = b.Client) ⟨fun h => by cases a; cases b; simp_all, fun h => by subst h; exact ⟨rfl, rfl⟩⟩
/-- An entry and the bytes of its fragment. -/
structure En where
  e : GEntry
  d : ByteArray
instance : Inhabited En := ⟨⟨default, ⟨#[]⟩⟩⟩
/-- A key's shelf: its map's block, its entries. -/
structure Sf where
  b : Nat
  l : List (GTag × En)
def en0 : En := ⟨⟨⟨0, 0⟩, false, false, ⟨none, 0, 0⟩⟩, ⟨#[]⟩⟩
def kT : GTag → Go.Value := GTag.val
def vE : En → Go.Value := fun x => x.e.val
def kS : ByteArray → Go.Value := fun s => .string s
def vO : Option Sf → Go.Value := fun o => .map (o.map Sf.b)
def eC : En → List Go.Value := fun x => x.e.cells
theorem keyTag : KeyOk Try.prog 31 kT where
  wide := by kernel_rfl
  eq := fun a b => ⟨_, (by kernel_rfl : eqV Try.prog 4 31 (kT a) (kT b) = some (decide (a.Count = b.Count) && (decide (a.Client = b.Client) && true))), by
    cases a; cases b; simp⟩
  chk := fun a => by kernel_rfl
  bits := fun a => by simp [kT, GTag.val, GTag.cells, Instr.sameBits]
theorem keyKey : KeyNr Try.prog 9 kS := keyStr (by exact Try.underlying9)
theorem enter_of {f : FuncId} {fn : Func} (hf : Try.prog.funcs[f]? = some fn) (hb : fn.body.isNone = false) (hn : (fn.name == "runtime.NumGoroutine") = false) : ∀ args w, (callFunc f args).run Try.prog w = .ok (.enter f args) w := fun _ _ => callFunc_enter hf hb hn
end Go.Proofs.Ytdkgdidnknojlaa.K
namespace Go.Proofs.Ytdkgdidnknojlaa.K
open Go Go.RowKit
set_option linter.unusedVariables false
theorem nodup_le : ∀ {n : Nat} {dn : List Nat}, dn.Nodup → (∀ i ∈ dn, i < n) → dn.length ≤ n
  | 0, dn, _, h => by cases dn with | nil => simp | cons x l => exact absurd (h x (by simp)) (by omega)
  | n + 1, dn, hn, h => by
    by_cases q : n ∈ dn
    · have h1 := nodup_le (n := n) (hn.erase n) (fun i hi => by
        have h2 := h i (List.mem_of_mem_erase hi)
        have h3 : i ≠ n := fun e => by subst e; exact hn.not_mem_erase hi
        omega)
      rw [List.length_erase_of_mem q] at h1; omega
    · have h1 := nodup_le (n := n) hn (fun i hi => by have h2 := h i hi; have h3 : i ≠ n := fun e => by subst e; exact q hi
                                                      omega)
      omega
theorem bang_of {α : Type} [Inhabited α] {l : List α} {i : Nat} {x : α} (h : l[i]? = some x) : l[i]! = x := by rw [List.getElem!_eq_getElem?_getD, h]; rfl
/-- Tag order. -/
def tlt (a b : GTag) : Prop := a.Count < b.Count ∨ a.Count = b.Count ∧ a.Client < b.Client
instance (a b : GTag) : Decidable (tlt a b) := by unfold tlt; infer_instance
theorem cmp_lt (a b : GTag) : tagCmp a b < 0 ↔ tlt a b := by
  unfold tlt
  rcases tagCmp_cases a b with ⟨h, e⟩ | ⟨h, e⟩ | ⟨h, e⟩ <;> rw [e] <;> constructor <;> intro q <;> omega
theorem tlt_trans {a b c : GTag} (h : tlt a b) (k : tlt b c) : tlt a c := by unfold tlt at *; omega
theorem tlt_irr {a : GTag} : ¬ tlt a a := by unfold tlt; omega
theorem tlt_asym {a b : GTag} (h : tlt a b) : ¬ tlt b a := by unfold tlt at *; omega
theorem tlt_tri {a b : GTag} (h : ¬ tlt a b) (k : ¬ tlt b a) : a = b := by
  unfold tlt at *; cases a; cases b; simp at *; omega
def geT (x y : GTag) : Bool := !decide (tagCmp x y < 0)
theorem geT_iff {x y : GTag} : geT x y = true ↔ ¬ tlt x y := by
  unfold geT; rw [Bool.not_eq_true', decide_eq_false_iff_not, cmp_lt]
theorem geT_trans (a b c : GTag) (h1 : geT a b = true) (h2 : geT b c = true) : geT a c = true := by
  rw [geT_iff] at *; unfold tlt at *; omega
theorem geT_total (a b : GTag) : (geT a b || geT b a) = true := by
  rw [Bool.or_eq_true, geT_iff, geT_iff]; unfold tlt; omega
theorem sortT_uniq {xs ys : List GTag} (hp : xs.Perm ys) : xs.mergeSort geT = ys.mergeSort geT := by
  refine List.Perm.eq_of_pairwise (le := fun x y => geT x y = true) (fun a b _ _ h1 h2 => ?_) (List.pairwise_mergeSort geT_trans geT_total xs) (List.pairwise_mergeSort geT_trans geT_total ys) ((List.mergeSort_perm _ _).trans (hp.trans (List.mergeSort_perm _ _).symm))
  rw [geT_iff] at h1 h2
  exact tlt_tri h1 h2
def finM (l : List (GTag × En)) (dn : List Nat) : List GTag := ((dn.map fun i => l[i]!).filter fun p => p.2.e.Fin).map (·.1)
def finS (l : List (GTag × En)) : List GTag := ((l.filter fun p => p.2.e.Fin).map (·.1)).mergeSort geT
section
variable {l : List (GTag × En)} {dn : List Nat} {i : Nat} {p : GTag × En}
theorem finM_snoc (h : l[i]? = some p) (hf : p.2.e.Fin = true) : finM l dn ++ [p.1] = finM l (dn ++ [i]) := by
  unfold finM
  rw [List.map_append, List.map_cons, List.map_nil, bang_of h, List.filter_append, List.map_append]
  simp [hf]
theorem finM_same (h : l[i]? = some p) (hf : ¬ p.2.e.Fin = true) : finM l dn = finM l (dn ++ [i]) := by
  unfold finM
  rw [List.map_append, List.map_cons, List.map_nil, bang_of h, List.filter_append, List.map_append]
  simp [hf]
theorem finM_all (hn : dn.Nodup) (hb : ∀ i ∈ dn, i < l.length) (ha : ∀ i, i < l.length → i ∈ dn) : (finM l dn).mergeSort geT = finS l :=
  sortT_uniq (((met_perm hn hb ha).filter _).map _)
/-- The floor of a shelf. -/
def floT (l : List (GTag × En)) (dl : Nat) : GTag := ((finS l)[dl]?).getD ⟨0, 0⟩
theorem floT_in {dl : Nat} (h : dl < (finS l).length) : floT l dl = (finS l)[dl]! := by
  unfold floT
  rw [List.getElem?_eq_getElem h, getElem!_pos _ dl h]; rfl
theorem floT_out {dl : Nat} (h : (finS l).length ≤ dl) : floT l dl = ⟨0, 0⟩ := by
  unfold floT
  rw [List.getElem?_eq_none h]; rfl
theorem finS_len : (finS l).length ≤ l.length := by
  unfold finS
  rw [List.length_mergeSort, List.length_map]
  exact List.length_filter_le _ _
end
end Go.Proofs.Ytdkgdidnknojlaa.K
namespace Go.Proofs.Ytdkgdidnknojlaa.K
open Go Go.RowKit
set_option linter.unusedVariables false
section
variable {κ ν : Type} [DecidableEq κ]
theorem del_cons (p : κ × ν) (l : List (κ × ν)) (k : κ) : mapDel (p :: l) k = if k = p.1 then l else p :: mapDel l k := by
  unfold mapDel
  rw [List.findIdx?_cons]
  by_cases h : k = p.1
  · simp [h]
  · simp only [h, decide_false, Bool.false_eq_true, if_false]
    cases l.findIdx? (fun p => decide (k = p.1)) <;> simp
theorem put_cons (p : κ × ν) (l : List (κ × ν)) (k : κ) (v : ν) : mapPut (p :: l) k v = if k = p.1 then (k, v) :: l else p :: mapPut l k v := by
  unfold mapPut
  rw [List.findIdx?_cons]
  by_cases h : k = p.1
  · simp [h]
  · simp only [h, decide_false, Bool.false_eq_true, if_false]
    cases l.findIdx? (fun p => decide (k = p.1)) <;> simp
theorem mapV_nil (k : κ) : mapV ([] : List (κ × ν)) k = none := rfl
theorem put_nil (k : κ) (v : ν) : mapPut [] k v = [(k, v)] := rfl
theorem del_nil (k : κ) : mapDel ([] : List (κ × ν)) k = [] := rfl
theorem put_perm : ∀ {l : List (κ × ν)} {k : κ} {v : ν}, (mapPut l k v).Perm ((k, v) :: mapDel l k)
  | [], k, v => List.Perm.refl _
  | p :: l, k, v => by
    rw [put_cons, del_cons]
    by_cases h : k = p.1
    · rw [if_pos h, if_pos h]
    · rw [if_neg h, if_neg h]
      exact ((put_perm (l := l) (k := k) (v := v)).cons p).trans (List.Perm.swap _ _ _)
theorem del_perm : ∀ {l : List (κ × ν)} {k : κ} {v : ν}, mapV l k = some v → l.Perm ((k, v) :: mapDel l k)
  | [], k, v, h => by simp [mapV_nil] at h
  | p :: l, k, v, h => by
    rw [mapV_cons] at h
    rw [del_cons]
    by_cases q : k = p.1
    · rw [if_pos q] at h
      rw [if_pos q, q, ← Option.some.inj h]
    · rw [if_neg q] at h
      rw [if_neg q]
      exact ((del_perm h).cons p).trans (List.Perm.swap _ _ _)
theorem del_none : ∀ {l : List (κ × ν)} {k : κ}, mapV l k = none → mapDel l k = l
  | [], k, h => rfl
  | p :: l, k, h => by
    rw [mapV_cons] at h
    rw [del_cons]
    by_cases q : k = p.1
    · rw [if_pos q] at h; cases h
    · rw [if_neg q] at h
      rw [if_neg q, del_none h]
theorem put_put : ∀ {l : List (κ × ν)} {k : κ} {v u : ν}, mapPut (mapPut l k v) k u = mapPut l k u
  | [], k, v, u => by rw [put_nil, put_cons, if_pos rfl, put_nil]
  | p :: l, k, v, u => by
    rw [put_cons, put_cons]
    by_cases q : k = p.1
    · rw [if_pos q, if_pos q, put_cons, if_pos rfl]
    · rw [if_neg q, if_neg q, put_cons, if_neg q, put_put]
theorem put_vals {γ : Type} {f : κ × ν → γ} {k : κ} {v u : ν} (hf : f (k, v) = f (k, u)) : ∀ {l : List (κ × ν)}, mapV l k = some u → (mapPut l k v).map f = l.map f
  | [], h => by simp [mapV_nil] at h
  | p :: l, h => by
    rw [mapV_cons] at h
    rw [put_cons]
    by_cases q : k = p.1
    · rw [if_pos q] at h
      rw [if_pos q, List.map_cons, List.map_cons, hf]
      have e := Option.some.inj h
      rw [← e, q]
    · rw [if_neg q] at h
      rw [if_neg q, List.map_cons, List.map_cons, put_vals hf h]
theorem put_len {l : List (κ × ν)} {k : κ} {v : ν} : (mapPut l k v).length ≤ l.length + 1 := by
  induction l with
  | nil => simp [put_nil]
  | cons p l ih =>
    rw [put_cons]
    split
    · simp
    · simp only [List.length_cons]; omega
theorem mapV_none : ∀ {l : List (κ × ν)} {k : κ}, mapV l k = none ↔ ¬ k ∈ l.map (·.1)
  | [], k => by simp [mapV_nil]
  | p :: l, k => by
    rw [mapV_cons]
    by_cases q : k = p.1
    · simp [q]
    · rw [if_neg q, mapV_none]; simp [q]
theorem mapV_of_mem : ∀ {l : List (κ × ν)} {k : κ} {v : ν}, (l.map Prod.fst).Nodup → (k, v) ∈ l → mapV l k = some v
  | [], k, v, _, h => by cases h
  | p :: l, k, v, hn, h => by
    rw [List.map_cons, List.nodup_cons] at hn
    rw [mapV_cons]
    rcases List.mem_cons.1 h with h | h
    · subst h; rw [if_pos rfl]
    · have : k ≠ p.1 := fun e => hn.1 (by rw [← e]; exact List.mem_map_of_mem (f := Prod.fst) h)
      rw [if_neg this, mapV_of_mem hn.2 h]
theorem del_keys : ∀ {l : List (κ × ν)} {k : κ}, ((mapDel l k).map Prod.fst).Sublist (l.map Prod.fst)
  | [], k => by rw [del_nil]; exact List.Sublist.refl _
  | p :: l, k => by
    rw [del_cons]
    split
    · rw [List.map_cons]; exact List.sublist_cons_self _ _
    · rw [List.map_cons, List.map_cons]; exact del_keys.cons_cons _
theorem del_not : ∀ {l : List (κ × ν)} {k : κ}, (l.map Prod.fst).Nodup → ¬ k ∈ (mapDel l k).map Prod.fst
  | [], k, _ => by rw [del_nil]; simp
  | p :: l, k, hn => by
    rw [List.map_cons, List.nodup_cons] at hn
    rw [del_cons]
    by_cases q : k = p.1
    · rw [if_pos q, q]; exact hn.1
    · rw [if_neg q, List.map_cons, List.mem_cons]
      rintro (e | e)
      · exact q e
      · exact del_not hn.2 e
theorem put_nodup {l : List (κ × ν)} {k : κ} {v : ν} (hn : (l.map Prod.fst).Nodup) : ((mapPut l k v).map Prod.fst).Nodup := by
  have hp := (put_perm (l := l) (k := k) (v := v)).map Prod.fst
  refine hp.nodup_iff.2 ?_
  rw [List.map_cons, List.nodup_cons]
  exact ⟨del_not hn, hn.sublist del_keys⟩
theorem del_filter : ∀ {l : List (κ × ν)} {k : κ}, (l.map Prod.fst).Nodup → mapDel l k = l.filter (fun p => !decide (k = p.1))
  | [], k, _ => rfl
  | p :: l, k, hn => by
    rw [List.map_cons, List.nodup_cons] at hn
    rw [del_cons, List.filter_cons]
    by_cases q : k = p.1
    · rw [if_pos q]
      simp only [q, decide_true, Bool.not_true, Bool.false_eq_true, if_false]
      symm
      rw [List.filter_eq_self]
      intro a ha
      have : p.1 ≠ a.1 := fun e => hn.1 (by rw [e]; exact List.mem_map_of_mem (f := Prod.fst) ha)
      simp [this]
    · rw [if_neg q]
      simp only [q, decide_false, Bool.not_false, if_true]
      rw [del_filter hn.2]
end
abbrev Tb := List (ByteArray × Option Sf)
def Res.emp : Res := ⟨fun _ => False, fun _ => True, fun _ _ => trivial⟩
def shRes (p : ByteArray × Option Sf) : Res := match p.2 with
  | some s => Res.mp s.b kT vE s.l
  | none => Res.emp
section
variable {w w0 w' : World} {M : Nat → Prop} {L A B : List Res} {T : Tb} {key : ByteArray} {s : Sf} {b : Nat} {l : List (GTag × En)}
theorem Hp.shPop (h : Hp w0 M (Res.all (T.map shRes) :: L) w) (hk : mapV T key = some (some s)) : Hp w0 M (Res.mp s.b kT vE s.l :: Res.all ((mapDel T key).map shRes) :: L) w :=
  Hp.allPop (r := shRes (key, some s)) (Hp.allPerm ((del_perm hk).map shRes) h)
theorem Hp.shPut (h : Hp w0 M (Res.mp b kT vE l :: Res.all ((mapDel T key).map shRes) :: L) w) : Hp w0 M (Res.all ((mapPut T key (some ⟨b, l⟩)).map shRes) :: L) w :=
  Hp.allPerm ((put_perm.map shRes).symm) (Hp.allCons (r := shRes (key, some ⟨b, l⟩)) h)
theorem Hp.shBack (h : Hp w0 M (Res.mp s.b kT vE s.l :: Res.all ((mapDel T key).map shRes) :: L) w) (hk : mapV T key = some (some s)) : Hp w0 M (Res.all (T.map shRes) :: L) w :=
  Hp.allPerm (((del_perm hk).map shRes).symm) (Hp.allCons (r := shRes (key, some s)) h)
theorem Hp.shNone (h : Hp w0 M (Res.all (T.map shRes) :: L) w) (hk : mapV T key = none) : Hp w0 M (Res.all ((mapDel T key).map shRes) :: L) w := by
  rw [del_none hk]; exact h
theorem Hp.shNoneB (h : Hp w0 M (Res.all ((mapDel T key).map shRes) :: L) w) (hk : mapV T key = none) : Hp w0 M (Res.all (T.map shRes) :: L) w := by
  rw [del_none hk] at h; exact h
theorem mp_vals {κ ν : Type} {kf : κ → Value} {vf : ν → Value} {l l' : List (κ × ν)} {m : Nat} (e : l'.map (fun p => (kf p.1, vf p.2)) = l.map fun p => (kf p.1, vf p.2)) (h : (Res.mp m kf vf l).holds w) : (Res.mp m kf vf l').holds w := by
  obtain ⟨es, c, h1, h2, h3⟩ := h
  exact ⟨es, c, h1, h2.trans e.symm, h3⟩
/-- The keys' map says the same when a shelf's entries turn. -/
theorem Hp.tbOld {m : Nat} (h : Hp w0 M (Res.mp m kS vO T :: L) w) (hk : mapV T key = some (some s)) : Hp w0 M (Res.mp m kS vO (mapPut T key (some ⟨s.b, l⟩)) :: L) w :=
  h.turn0 (Res.mp m kS vO (mapPut T key (some ⟨s.b, l⟩))) (mp_vals (put_vals (f := fun p => (kS p.1, vO p.2)) (v := some ⟨s.b, l⟩) (u := some s) rfl hk)) fun _ q => q
theorem Hp.tbNew {m : Nat} {l0 : List (GTag × En)} (h : Hp w0 M (Res.mp m kS vO (mapPut T key (some ⟨b, l0⟩)) :: L) w) : Hp w0 M (Res.mp m kS vO (mapPut T key (some ⟨b, l⟩)) :: L) w := by
  have hk : mapV (mapPut T key (some ⟨b, l0⟩)) key = some (some ⟨b, l0⟩) := by rw [mapV_put, if_pos rfl]
  have := h.tbOld (s := ⟨b, l0⟩) (l := l) hk
  rwa [put_put] at this
/-- What a table looks like from without. -/
structure TbH (w : World) (tb m dl : Nat) (T : Tb) (F : Nat → Prop) (D : List (SlH × ByteArray)) (ty : TypeId) : Prop where
  row : (Res.row tb [.int .i64 (dl : Int), .map (some m)] ty).holds w
  keys : (Res.mp m kS vO T).holds w
  shelf : ∀ p ∈ T, (shRes p).holds w
  dat : (Res.dat F D).holds w
theorem shRes_fram {p : ByteArray × Option Sf} (h : (shRes p).holds w) (hf : Fram Non w w') : (shRes p).holds w' := by
  unfold shRes at *
  cases hp : p.2 with
  | none => trivial
  | some s => rw [hp] at h; exact mp_at h hf
theorem TbH.fram {tb m dl : Nat} {F : Nat → Prop} {D : List (SlH × ByteArray)} {ty : TypeId} (h : TbH w tb m dl T F D ty) (hf : Fram Non w w') : TbH w' tb m dl T F D ty :=
  ⟨row_at h.row hf, mp_at h.keys hf, fun p hp => shRes_fram (h.shelf p hp) hf, dat_fram h.dat hf⟩
theorem TbH.of {tb m dl : Nat} {F : Nat → Prop} {D : List (SlH × ByteArray)} {ty : TypeId} (h : Hp w0 M (Res.row tb [.int .i64 (dl : Int), .map (some m)] ty :: Res.mp m kS vO T :: Res.all (T.map shRes) :: Res.dat F D :: L) w) : TbH w tb m dl T F D ty :=
  ⟨h.get0, h.get1, fun p hp => h.get2.1 _ (List.mem_map_of_mem hp), h.get3⟩
def shO (o : Option Sf) : List (GTag × En) := match o with
  | some s => s.l
  | none => []
/-- A key's shelf. -/
def shK (T : Tb) (key : ByteArray) : Option Sf := (mapV T key).getD none
theorem TbH.sh {tb m dl : Nat} {F : Nat → Prop} {D : List (SlH × ByteArray)} {ty : TypeId} (h : TbH w tb m dl T F D ty) (key : ByteArray) : MO w ((shK T key).map Sf.b) kT vE (shO (shK T key)) := by
  unfold shK
  cases hv : mapV T key with
  | none => exact MO.nil
  | some o =>
    cases o with
    | none => exact MO.nil
    | some s =>
      have := h.shelf _ (mapV_mem hv)
      exact MO.of (b := s.b) this
end
/-- What a fragment's coming does. -/
def enK (T : Tb) (key : ByteArray) (g : GTag) : En := (mapV (shO (shK T key)) g).getD en0
def chgP (T : Tb) (key : ByteArray) (g : GTag) (dl : Nat) : Prop := ¬ ((enK T key g).e.Has = true ∨ tlt g (floT (shO (shK T key)) dl))
def PreR (T : Tb) (D : List (SlH × ByteArray)) (key : ByteArray) (g : GTag) (d : ByteArray) (dl : Nat) (f : Bool) (T2 : Tb) (D2 : List (SlH × ByteArray)) : Prop :=
  (¬ chgP T key g dl ∧ f = false ∧ T2 = T ∧ D2 = D) ∨
  (chgP T key g dl ∧ f = true ∧ ∃ b h X, T2 = mapPut T key (some ⟨b, mapPut (shO (shK T key)) g ⟨⟨g, (enK T key g).e.Fin, true, h⟩, d⟩⟩) ∧ D2 = D ++ X ∧ Dk D2 h d)
def chgF (T : Tb) (key : ByteArray) (g : GTag) (dl : Nat) : Prop := ¬ ((enK T key g).e.Fin = true ∨ tlt g (floT (shO (shK T key)) dl))
/-- A shelf with a tag finalized, and what is left of it then. -/
def finP (T : Tb) (key : ByteArray) (g : GTag) : List (GTag × En) := mapPut (shO (shK T key)) g ⟨⟨g, true, (enK T key g).e.Has, (enK T key g).e.Data⟩, (enK T key g).d⟩
def keepT (l : List (GTag × En)) (f : GTag) : List (GTag × En) := l.filter fun p => !decide (tlt p.1 f)
def FinR (T : Tb) (key : ByteArray) (g : GTag) (dl : Nat) (f : Bool) (T2 : Tb) : Prop :=
  (¬ chgF T key g dl ∧ f = false ∧ T2 = T) ∨
  (chgF T key g dl ∧ f = true ∧ ∃ b, T2 = mapPut T key (some ⟨b, keepT (finP T key g) (floT (finP T key g) dl)⟩))
theorem nodup_sub {α : Type} [DecidableEq α] : ∀ {a b : List α}, a.Nodup → (∀ x ∈ a, x ∈ b) → a.length ≤ b.length
  | [], b, _, _ => by simp
  | x :: a, b, hn, h => by
    rw [List.nodup_cons] at hn
    have h1 := nodup_sub (a := a) (b := b.erase x) hn.2 fun y hy => by
      have : y ≠ x := fun e => hn.1 (e ▸ hy)
      exact (List.mem_erase_of_ne this).2 (h y (by simp [hy]))
    have h2 := h x (by simp)
    rw [List.length_erase_of_mem h2] at h1
    have h3 : 0 < b.length := List.length_pos_of_mem h2
    simp only [List.length_cons]; omega
/-- What stands while what is below the floor goes. -/
def dlI (l0 l : List (GTag × En)) (dn : List GTag) (f : GTag) : Prop :=
  (l = l0.filter fun p => !(decide (p.1 ∈ dn) && decide (tlt p.1 f))) ∧ dn.Nodup ∧ (∀ k ∈ dn, k ∈ l0.map Prod.fst) ∧ (l0.map Prod.fst).Nodup
section
variable {l0 l : List (GTag × En)} {dn : List GTag} {f : GTag} {p : GTag × En}
theorem dl_start (h : (l0.map Prod.fst).Nodup) : dlI l0 l0 [] f := ⟨by symm; rw [List.filter_eq_self]; intro a _; simp, List.nodup_nil, (fun k hk => by cases hk), h⟩
theorem dl_len (h : dlI l0 l dn f) : dn.length ≤ l0.length := by
  have := nodup_sub h.2.1 h.2.2.1
  simpa using this
theorem dl_nodup (h : dlI l0 l dn f) : (l.map Prod.fst).Nodup := by
  rw [h.1]
  exact h.2.2.2.sublist ((List.filter_sublist (l := l0)).map _)
theorem dl_snoc (h : dlI l0 l dn f) (hp : p ∈ l) (hn : p.1 ∉ dn) : (dn ++ [p.1]).Nodup ∧ ∀ k ∈ dn ++ [p.1], k ∈ l0.map Prod.fst := by
  refine ⟨?_, fun k hk => ?_⟩
  · rw [List.nodup_append]
    exact ⟨h.2.1, List.nodup_cons.2 ⟨by simp, List.nodup_nil⟩, fun a ha c hc e => by rw [List.mem_singleton.1 hc] at e; subst e; exact hn ha⟩
  · rcases List.mem_append.1 hk with q | q
    · exact h.2.2.1 k q
    · rw [List.mem_singleton.1 q]
      rw [h.1] at hp
      exact List.mem_map_of_mem (f := Prod.fst) (List.mem_filter.1 hp).1
theorem dl_same (h : dlI l0 l dn f) (hp : p ∈ l) (hn : p.1 ∉ dn) (hf : ¬ tlt p.1 f) : dlI l0 l (dn ++ [p.1]) f := by
  refine ⟨?_, (dl_snoc h hp hn).1, (dl_snoc h hp hn).2, h.2.2.2⟩
  rw [h.1]
  apply List.filter_congr
  intro q _
  by_cases e : q.1 = p.1
  · simp [e, hf]
  · simp [e]
theorem dl_gone (h : dlI l0 l dn f) (hp : p ∈ l) (hn : p.1 ∉ dn) (hf : tlt p.1 f) : dlI l0 (mapDel l p.1) (dn ++ [p.1]) f := by
  refine ⟨?_, (dl_snoc h hp hn).1, (dl_snoc h hp hn).2, h.2.2.2⟩
  rw [del_filter (dl_nodup h), h.1, List.filter_filter]
  apply List.filter_congr
  intro q _
  by_cases e : q.1 = p.1
  · simp [e, hf]
  · have e2 : ¬ p.1 = q.1 := fun z => e z.symm
    simp [e, e2]
theorem dl_end (h : dlI l0 l dn f) (ha : ∀ p ∈ l, p.1 ∈ dn) : l = keepT l0 f := by
  unfold keepT
  rw [h.1] at ha ⊢
  apply List.filter_congr
  intro q hq
  by_cases e : q.1 ∈ dn
  · simp [e]
  · have : ¬ tlt q.1 f := fun z => e (ha q (List.mem_filter.2 ⟨hq, by simp [e]⟩))
    simp [e, this]
end
theorem shK_some {T : Tb} {key : ByteArray} {s : Sf} (h : mapV T key = some (some s)) : shK T key = some s := by unfold shK; rw [h]; rfl
theorem shK_none {T : Tb} {key : ByteArray} (h : mapV T key = none) : shK T key = none := by unfold shK; rw [h]; rfl
end Go.Proofs.Ytdkgdidnknojlaa.K
namespace Go.Proofs.Ytdkgdidnknojlaa.K
open Go Go.RowKit
set_option linter.unusedVariables false
structure TbOk (T : Tb) (D : List (SlH × ByteArray)) (n : Nat) : Prop where
  keys : (T.map Prod.fst).Nodup
  shelf : ∀ p ∈ T, ∃ s, p.2 = some s ∧ (s.l.map Prod.fst).Nodup ∧ s.l.length ≤ n ∧ ∀ q ∈ s.l, q.2.e.Tag = q.1 ∧ Dk D q.2.e.Data q.2.d
  size : T.length ≤ n
section
variable {T T2 : Tb} {D D2 X : List (SlH × ByteArray)} {n dl : Nat} {key : ByteArray} {g : GTag} {d : ByteArray} {f : Bool} {s : Sf}
theorem tbok_nil : TbOk [] [] 0 := ⟨List.nodup_nil, (fun p hp => by cases hp), Nat.le_refl _⟩
theorem TbOk.more (h : TbOk T D n) : TbOk T D (n + 1) := ⟨h.keys, fun p hp => by
  obtain ⟨s, h1, h2, h3, h4⟩ := h.shelf p hp
  exact ⟨s, h1, h2, by omega, h4⟩, by have := h.size; omega⟩
theorem TbOk.moreD (h : TbOk T D n) : TbOk T (D ++ X) n := ⟨h.keys, fun p hp => by
  obtain ⟨s, h1, h2, h3, h4⟩ := h.shelf p hp
  exact ⟨s, h1, h2, h3, fun q hq => ⟨(h4 q hq).1, (h4 q hq).2.more⟩⟩, h.size⟩
theorem TbOk.get (h : TbOk T D n) (key : ByteArray) : mapV T key = none ∨ ∃ s, mapV T key = some (some s) := by
  cases hk : mapV T key with
  | none => exact .inl rfl
  | some o =>
    obtain ⟨s, h1, _⟩ := h.shelf _ (mapV_mem hk)
    exact .inr ⟨s, by rw [← h1]⟩
theorem TbOk.one (h : TbOk T D n) (hk : mapV T key = some (some s)) : (s.l.map Prod.fst).Nodup ∧ s.l.length ≤ n ∧ ∀ q ∈ s.l, q.2.e.Tag = q.1 ∧ Dk D q.2.e.Data q.2.d := by
  obtain ⟨s', h1, h2⟩ := h.shelf _ (mapV_mem hk)
  cases h1
  exact h2
theorem TbOk.sh (h : TbOk T D n) (key : ByteArray) : ((shO (shK T key)).map Prod.fst).Nodup ∧ (shO (shK T key)).length ≤ n ∧ ∀ q ∈ shO (shK T key), q.2.e.Tag = q.1 ∧ Dk D q.2.e.Data q.2.d := by
  rcases h.get key with hk | ⟨s, hk⟩
  · rw [shK_none hk]; exact ⟨List.nodup_nil, Nat.zero_le _, fun q hq => by cases hq⟩
  · rw [shK_some hk]; exact h.one hk
theorem TbOk.put (h : TbOk T D n) {b : Nat} {l : List (GTag × En)} (hn : (l.map Prod.fst).Nodup) (hl : l.length ≤ n + 1) (he : ∀ q ∈ l, q.2.e.Tag = q.1 ∧ Dk (D ++ X) q.2.e.Data q.2.d) : TbOk (mapPut T key (some ⟨b, l⟩)) (D ++ X) (n + 1) := by
  refine ⟨put_nodup h.keys, fun p hp => ?_, by have := put_len (l := T) (k := key) (v := some (⟨b, l⟩ : Sf)); have := h.size; omega⟩
  rcases mapPut_sub p hp with rfl | hp
  · exact ⟨_, rfl, hn, hl, he⟩
  · exact (h.moreD (X := X)).more.shelf p hp
theorem en_dk (h : TbOk T D n) : Dk D (enK T key g).e.Data (enK T key g).d := by
  unfold enK
  cases hv : mapV (shO (shK T key)) g with
  | none => exact Dk.nil
  | some x => exact ((h.sh key).2.2 _ (mapV_mem hv)).2
theorem PreR.ok (h : PreR T D key g d dl f T2 D2) (hok : TbOk T D n) : TbOk T2 D2 (n + 1) := by
  rcases h with ⟨_, _, rfl, rfl⟩ | ⟨_, _, b, hh, X, rfl, rfl, hk⟩
  · exact hok.more
  · obtain ⟨h1, h2, h3⟩ := hok.sh key
    refine hok.put (put_nodup h1) (Nat.le_trans put_len (by omega)) fun q hq => ?_
    rcases mapPut_sub q hq with rfl | hq
    · exact ⟨rfl, hk⟩
    · exact ⟨(h3 q hq).1, (h3 q hq).2.more⟩
theorem finP_ok (hok : TbOk T D n) : ((finP T key g).map Prod.fst).Nodup ∧ (finP T key g).length ≤ n + 1 ∧ ∀ q ∈ finP T key g, q.2.e.Tag = q.1 ∧ Dk D q.2.e.Data q.2.d := by
  obtain ⟨h1, h2, h3⟩ := hok.sh key
  refine ⟨put_nodup h1, Nat.le_trans put_len (by omega), fun q hq => ?_⟩
  rcases mapPut_sub q hq with rfl | hq
  · exact ⟨rfl, en_dk hok⟩
  · exact h3 q hq
theorem FinR.ok (h : FinR T key g dl f T2) (hok : TbOk T D n) : TbOk T2 D (n + 1) := by
  rcases h with ⟨_, _, rfl⟩ | ⟨_, _, b, rfl⟩
  · exact hok.more
  · obtain ⟨h1, h2, h3⟩ := finP_ok (key := key) (g := g) hok
    have := hok.put (X := []) (key := key) (b := b) (l := keepT (finP T key g) (floT (finP T key g) dl)) (h1.sublist ((List.filter_sublist (l := finP T key g)).map _)) (Nat.le_trans (List.length_filter_le _ _) h2) fun q hq => by
      rw [List.append_nil]; exact h3 q (List.mem_filter.1 hq).1
    rwa [List.append_nil] at this
end
def comesU (u : GUpdate) : Prop := u.Kind = 1 ∨ u.Kind = 3 ∧ u.Entry.Has = true
def endsU (u : GUpdate) : Prop := u.Kind = 2 ∨ u.Kind = 3 ∧ u.Entry.Fin = true
/-- The highest finalized tag. -/
def topT (l : List (GTag × En)) : GTag := ((finS l)[0]?).getD ⟨0, 0⟩
theorem finS_desc (l : List (GTag × En)) : (finS l).Pairwise fun x y => ¬ tlt x y := (List.pairwise_mergeSort geT_trans geT_total _).imp fun h => geT_iff.1 h
theorem maxT_head : ∀ {l : List GTag}, l.Pairwise (fun x y => ¬ tlt x y) → maxT l = (l[0]?).getD ⟨0, 0⟩
  | [], _ => rfl
  | x :: l, h => by
    rw [List.pairwise_cons] at h
    obtain ⟨h1, _⟩ := h
    show l.foldl (fun m y => if 0 < tagCmp y m then y else m) x = x
    have key : ∀ l : List GTag, (∀ y ∈ l, ¬ tlt x y) → l.foldl (fun m y => if 0 < tagCmp y m then y else m) x = x := by
      intro l
      induction l with
      | nil => intro _; rfl
      | cons y l ih =>
        intro hy
        rw [List.foldl_cons]
        have h2 := hy y (by simp)
        have : ¬ 0 < tagCmp y x := by
          intro q
          apply h2
          unfold tlt
          rcases tagCmp_cases y x with ⟨a, e⟩ | ⟨a, e⟩ | ⟨a, e⟩ <;> omega
        rw [if_neg this]
        exact ih fun z hz => hy z (by simp [hz])
    exact key l h1
theorem topT_max (l : List (GTag × En)) : maxT (finS l) = topT l := maxT_head (finS_desc l)
end Go.Proofs.Ytdkgdidnknojlaa.K
namespace Go.Proofs.Ytdkgdidnknojlaa.K
open Go Go.RowKit
set_option linter.unusedVariables false
/-- An entry, plainly. -/
def pl (x : En) : GTag × Bool × Bool × ByteArray := (x.e.Tag, x.e.Fin, x.e.Has, x.d)
structure Hd where
  h : GHeld
  ls : List En
instance : Inhabited Hd := ⟨⟨default, []⟩⟩
structure Ud where
  u : GUpdate
  d : ByteArray
instance : Inhabited Ud := ⟨⟨default, ⟨#[]⟩⟩⟩
abbrev strC : ByteArray → List Go.Value := fun y => [Go.Value.string y]
def hC : Hd → List Go.Value := fun y => y.h.cells
def uC : Ud → List Go.Value := fun y => y.u.cells
/-- The fragments are small. -/
def TbD (T : Tb) : Prop := ∀ key, ∀ q ∈ shO (shK T key), q.2.d.size ≤ 65540
def EntR (D : List (SlH × ByteArray)) (T : Tb) (key : ByteArray) (ls : List En) : Prop :=
  (ls.map pl).Perm ((shO (shK T key)).map fun q => pl q.2) ∧ (ls.Pairwise fun x y => ¬ tlt y.e.Tag x.e.Tag) ∧ ∀ x ∈ ls, Dk D x.e.Data x.d
def KeyR (T : Tb) (ks : List ByteArray) : Prop := ks.Perm (T.map Prod.fst) ∧ ks.Pairwise fun x y => Op.bytesLess y.toList x.toList = false
def HldR (T : Tb) (hs : List Hd) (D : List (SlH × ByteArray)) : Prop := KeyR T (hs.map fun y => y.h.Key) ∧ ∀ y ∈ hs, EntR D T y.h.Key y.ls
theorem EntR.more {D X : List (SlH × ByteArray)} {T : Tb} {key : ByteArray} {ls : List En} (h : EntR D T key ls) : EntR (D ++ X) T key ls := ⟨h.1, h.2.1, fun x hx => (h.2.2 x hx).more⟩
/-- Lists of entries that are read alone. -/
def Res.els (F : Nat → Prop) (hs : List Hd) : Res :=
  ⟨F, fun w => ∀ y ∈ hs, (y.h.Entries.n = y.ls.length ∧ SlR w y.h.Entries.a y.h.Entries.n (y.ls.flatMap eC)) ∧ (0 < y.h.Entries.n → F (adr y.h.Entries.a).block), fun h hw y hy => by
    obtain ⟨⟨h1, h2⟩, h3⟩ := hw y hy
    refine ⟨⟨h1, ?_, h2.some⟩, h3⟩
    rcases Nat.eq_zero_or_pos y.h.Entries.n with h0 | h0
    · have : y.ls = [] := List.eq_nil_of_length_eq_zero (by omega)
      rw [this]
      intro j u hu
      simp at hu
    · exact h2.rd.keep fun _ => h _ (h3 h0)⟩
section
variable {w w0 : World} {M : Nat → Prop} {L : List Res} {F G : Nat → Prop} {hs X : List Hd}
theorem Hp.elsNil (h : Hp w0 M L w) : Hp w0 M (Res.els (fun _ => False) [] :: L) w :=
  h.new (Fram.refl _ _) _ (fun p hp => by cases hp) fun b hb => by cases hb
theorem Hp.elsJoin (h : Hp w0 M (Res.els G X :: Res.els F hs :: L) w) : Hp w0 M (Res.els (fun k => F k ∨ G k) (hs ++ X) :: L) w := by
  have hap := h.apart
  rw [List.pairwise_cons, List.pairwise_cons] at hap
  obtain ⟨h1, h2, h3⟩ := hap
  have hb : (Res.els G X).holds w := h.holds _ (by simp)
  have hv : (Res.els F hs).holds w := h.holds (Res.els F hs) (by simp)
  refine ⟨h.fr, ?_, ?_, ?_⟩
  · intro r hr
    rcases List.mem_cons.1 hr with rfl | hr
    · intro p hp
      rcases List.mem_append.1 hp with q | q
      · exact ⟨(hv p q).1, fun z => .inl ((hv p q).2 z)⟩
      · exact ⟨(hb p q).1, fun z => .inr ((hb p q).2 z)⟩
    · exact h.holds r (by simp [hr])
  · intro r hr k hk
    rcases List.mem_cons.1 hr with rfl | hr
    · rcases hk with hk | hk
      · exact h.range (Res.els F hs) (by simp) k hk
      · exact h.range (Res.els G X) (by simp) k hk
    · exact h.range r (by simp [hr]) k hk
  · rw [List.pairwise_cons]
    refine ⟨fun r hr k hk hk2 => ?_, h3⟩
    rcases hk with hk | hk
    · exact h2 r hr k hk hk2
    · exact h1 r (by simp [hr]) k hk hk2
theorem Hp.ownEls {E : TypeId} {n c : Nat} {a : Option Addr} {ls : List En} (key : ByteArray) (h : Hp w0 M (Res.own E 5 (.slice a n c) n (ls.flatMap eC) :: L) w) : Hp w0 M (Res.els (fun k => (Value.slice a n c).ownBlock = some k) [⟨⟨key, ⟨a, n, c⟩⟩, ls⟩] :: L) w := by
  refine h.turn0 _ ?_ fun b hb => hb
  intro hr p hp
  rw [List.mem_singleton] at hp
  subst hp
  have := own_flat (f := eC) (sz := 5) (fun _ => rfl) (by decide) hr
  refine ⟨⟨this.symm, SlR.own hr⟩, fun q => ?_⟩
  rcases hr.2 with ⟨q1, q2⟩ | ⟨g, cap, cur, q1, _⟩
  · have : 0 < n := q
    omega
  · have h5 : a = some ⟨g, 0, none⟩ := by simp at q1; exact q1.1
    show (Value.slice a n c).ownBlock = some (adr a).block
    rw [q1, h5]; rfl
theorem els_at {y : Hd} (h : (Res.els F hs).holds w) (hy : y ∈ hs) : y.h.Entries.n = y.ls.length ∧ SlR w y.h.Entries.a y.h.Entries.n (y.ls.flatMap eC) := (h y hy).1
end
/-! What Entries has met. -/
def EnI (l : List (GTag × En)) (dn : List Nat) (ls : List En) (D : List (SlH × ByteArray)) : Prop := ls.map pl = (dn.map fun i => pl l[i]!.2) ∧ ∀ x ∈ ls, Dk D x.e.Data x.d
section
variable {l : List (GTag × En)} {dn : List Nat} {ls : List En} {D X : List (SlH × ByteArray)} {i : Nat} {p : GTag × En} {e1 : GEntry} {T : Tb} {key : ByteArray}
theorem en_snoc (h : EnI l dn ls D) (hp : l[i]? = some p) (he : e1.Tag = p.2.e.Tag ∧ e1.Fin = p.2.e.Fin ∧ e1.Has = p.2.e.Has) : EnI l (dn ++ [i]) (ls ++ [⟨e1, p.2.d⟩]) (D ++ [(e1.Data, p.2.d)]) := by
  refine ⟨?_, fun x hx => ?_⟩
  · rw [List.map_append, List.map_append, h.1, List.map_cons, List.map_nil, List.map_cons, List.map_nil, bang_of hp]
    unfold pl
    rw [he.1, he.2.1, he.2.2]
  · rcases List.mem_append.1 hx with q | q
    · exact (h.2 x q).more
    · rw [List.mem_singleton] at q; subst q; exact Dk.last
theorem EnI.len (h : EnI l dn ls D) : ls.length = dn.length := by
  have := congrArg List.length h.1
  simpa using this
theorem en_all (h : EnI (shO (shK T key)) dn ls D) (hn : dn.Nodup) (hb : ∀ i ∈ dn, i < (shO (shK T key)).length) (ha : ∀ i, i < (shO (shK T key)).length → i ∈ dn) {ls' : List En} (hp : ls'.Perm ls) (hs : ls'.Pairwise fun x y => ¬ tlt y.e.Tag x.e.Tag) : EntR D T key ls' := by
  refine ⟨?_, hs, fun x hx => h.2 x (hp.mem_iff.1 hx)⟩
  refine (hp.map pl).trans ?_
  rw [h.1]
  have := (met_perm hn hb ha).map fun q => pl q.2
  rw [List.map_map] at this
  exact this
end
theorem ky_snoc {T : Tb} {dn : List Nat} {i : Nat} {p : ByteArray × Option Sf} {ks : List ByteArray} (h : ks = dn.map fun i => (T[i]!).1) (hp : T[i]? = some p) : ks ++ [p.1] = (dn ++ [i]).map fun i => (T[i]!).1 := by
  rw [List.map_append, ← h, List.map_cons, List.map_nil, bang_of hp]
theorem ky_all {T : Tb} {dn : List Nat} {ks ks' : List ByteArray} (h : ks = dn.map fun i => (T[i]!).1) (hn : dn.Nodup) (hb : ∀ i ∈ dn, i < T.length) (ha : ∀ i, i < T.length → i ∈ dn) (hp : ks'.Perm ks) (hs : ks'.Pairwise fun x y => Op.bytesLess y.toList x.toList = false) : KeyR T ks' := by
  refine ⟨hp.trans ?_, hs⟩
  rw [h]
  have := (met_perm hn hb ha).map Prod.fst
  rw [List.map_map] at this
  exact this
/-! What All has told. -/
def AlI (T : Tb) (ks : List ByteArray) (i : Nat) (hs : List Hd) (D : List (SlH × ByteArray)) : Prop := (hs.map fun y => y.h.Key) = ks.take i ∧ ∀ y ∈ hs, EntR D T y.h.Key y.ls
theorem al_snoc {T : Tb} {ks : List ByteArray} {i : Nat} {hs : List Hd} {D X : List (SlH × ByteArray)} {h1 : SlH} {ls : List En} (h : AlI T ks i hs D) (hi : i < ks.length) (he : EntR X T ks[i]! ls) (hX : ∀ {h d}, Dk X h d → Dk (D ++ X) h d) : AlI T ks (i + 1) (hs ++ [⟨⟨ks[i]!, h1⟩, ls⟩]) (D ++ X) := by
  refine ⟨?_, fun y hy => ?_⟩
  · rw [List.map_append, h.1, List.take_succ_eq_append_getElem hi, List.map_cons, List.map_nil, getElem!_pos ks i hi]
  · rcases List.mem_append.1 hy with q | q
    · exact (h.2 y q).more
    · rw [List.mem_singleton] at q; subst q
      exact ⟨he.1, he.2.1, fun x hx => hX (he.2.2 x hx)⟩
theorem dk_right {D X : List (SlH × ByteArray)} {h : SlH} {d : ByteArray} (k : Dk X h d) : Dk (D ++ X) h d := k.imp (fun q => List.mem_append_right _ q) id
theorem al_all {T : Tb} {ks : List ByteArray} {hs : List Hd} {D : List (SlH × ByteArray)} {i : Nat} (h : AlI T ks i hs D) (hi : ks.length ≤ i) (hk : KeyR T ks) : HldR T hs D := by
  refine ⟨?_, h.2⟩
  rw [h.1, List.take_of_length_le hi]
  exact hk
/-! Updates. -/
def upO (y : Hd) (x : En) : Ud := ⟨⟨3, y.h.Key, x.e⟩, x.d⟩
def upsL (hs : List Hd) : List Ud := hs.flatMap fun y => y.ls.map (upO y)
theorem ups_take {hs : List Hd} {i : Nat} (hi : i < hs.length) : upsL (hs.take (i + 1)) = upsL (hs.take i) ++ (hs[i]!.ls).map (upO hs[i]!) := by
  unfold upsL
  rw [List.take_succ_eq_append_getElem hi, List.flatMap_append, List.flatMap_cons, List.flatMap_nil, List.append_nil, getElem!_pos hs i hi]
theorem ups_snoc {y : Hd} {us : List Ud} {j : Nat} (hj : j < y.ls.length) : us ++ (y.ls.take j).map (upO y) ++ [upO y y.ls[j]!] = us ++ (y.ls.take (j + 1)).map (upO y) := by
  rw [List.take_succ_eq_append_getElem hj, List.map_append, List.append_assoc, List.map_cons, List.map_nil, getElem!_pos y.ls j hj]
theorem ups_len {hs : List Hd} {n i : Nat} (h : ∀ y ∈ hs, y.ls.length ≤ n) : (upsL (hs.take i)).length ≤ i * n := by
  induction i generalizing hs with
  | zero => simp [upsL]
  | succ i ih =>
    cases hs with
    | nil => simp [upsL]
    | cons y hs =>
      have := ih (hs := hs) fun z hz => h z (by simp [hz])
      have h2 := h y (by simp)
      unfold upsL at *
      rw [List.take_succ_cons, List.flatMap_cons, List.length_append, List.length_map, Nat.add_mul]
      omega
theorem EntR.len {D : List (SlH × ByteArray)} {T : Tb} {key : ByteArray} {ls : List En} {n : Nat} {D' : List (SlH × ByteArray)} (h : EntR D T key ls) (hok : TbOk T D' n) : ls.length ≤ n := by
  have := h.1.length_eq
  simp only [List.length_map] at this
  have h2 := (hok.sh key).2.1
  omega
end Go.Proofs.Ytdkgdidnknojlaa.K
namespace Go.Proofs.Ytdkgdidnknojlaa.K
open Go Go.RowKit
set_option linter.unusedVariables false
section
variable {P : Program} {N : Nat} {ops : Array Oper} {Q : Post} {next : Env → World → Prop} {e : Env} {w : World}
theorem opStep.loadV {d : Nat} {T : TypeId} {x : Operand} {ty : TypeId} {pos : String} {af : Array Edge} {a : Addr} {v : Value} (hx : ev e x = .pointer (some a)) (hl : Ld P w T a v) (h : next (upd e d v) w) :
    opStep P N ops Q ⟨some d, .load T x, ty, pos, af, none⟩ next e w := by
  refine opStep.val (v := v) (w' := w) rfl ?_ h
  have h_ : (Instr.loadAt T (.pointer (some a))).run P w = .ok v w := hl
  simp [execOp, hx, h_]
end
structure Ce where
  c : Gsherdtop_cell
  d : ByteArray
instance : Inhabited Ce := ⟨⟨default, ⟨#[]⟩⟩⟩
def cC : Ce → List Go.Value := fun y => y.c.cells
/-- It is this key's cell, and finalized. -/
def fnC (key : ByteArray) (y : Ce) : Bool := decide (y.c.key = key) && y.c.e.Fin
def finC (C : List Ce) (key : ByteArray) : List GTag := (C.filter (fnC key)).map fun y => y.c.e.Tag
def finD (C : List Ce) (key : ByteArray) : List GTag := (finC C key).mergeSort geT
theorem finD_uniq {C : List Ce} {key : ByteArray} {fs : List GTag} (hp : fs.Perm (finC C key)) (hs : fs.Pairwise fun x y => ¬ tlt x y) : fs = finD C key := by
  refine List.Perm.eq_of_pairwise (le := fun x y => geT x y = true) (fun a b _ _ h1 h2 => ?_) (hs.imp fun h => geT_iff.2 h) (List.pairwise_mergeSort geT_trans geT_total _) (hp.trans (List.mergeSort_perm _ _).symm)
  rw [geT_iff] at h1 h2
  exact tlt_tri h1 h2
/-- A tag on its way to its place. -/
def FnI (ys : List GTag) (x : GTag) (xs : List GTag) (j : Nat) : Prop := xs.Perm (ys ++ [x]) ∧ j < xs.length ∧ ∀ p q, p < q → q < xs.length → q ≠ j → ¬ tlt xs[p]! xs[q]!
theorem bang_app {α : Type} [Inhabited α] {l : List α} {x : α} {i : Nat} (h : i < l.length + 1) : (l ++ [x])[i]! = if i < l.length then l[i]! else x := by
  rw [List.getElem!_eq_getElem?_getD, List.getElem!_eq_getElem?_getD, List.getElem?_append]
  by_cases h1 : i < l.length
  · simp [h1]
  · obtain rfl : i = l.length := by omega
    simp
theorem bang_set {α : Type} [Inhabited α] {l : List α} {x : α} {i k : Nat} (hk : k < l.length) : (l.set k x)[i]! = if i = k then x else l[i]! := by
  by_cases e : i = k
  · subst e; simp [hk]
  · rw [if_neg e]; simp [List.getElem!_eq_getElem?_getD, List.getElem?_set_ne (Ne.symm e)]
theorem pw_bang {l : List GTag} (h : l.Pairwise fun x y => ¬ tlt x y) {p q : Nat} (hp : p < q) (hq : q < l.length) : ¬ tlt l[p]! l[q]! := by
  rw [getElem!_pos l p (by omega), getElem!_pos l q hq]
  exact List.pairwise_iff_getElem.1 h p q (by omega) hq hp
theorem fn_start {ys : List GTag} {x : GTag} (h : ys.Pairwise fun x y => ¬ tlt x y) : FnI ys x (ys ++ [x]) ys.length := by
  refine ⟨List.Perm.refl _, by simp, fun p q h1 h2 h3 => ?_⟩
  rw [List.length_append, List.length_singleton] at h2
  rw [bang_app (by omega), bang_app (by omega), if_pos (by omega), if_pos (by omega)]
  exact pw_bang h h1 (by omega)
theorem fn_step {ys xs : List GTag} {x : GTag} {j : Nat} (h : FnI ys x xs j) (h0 : 0 < j) (hl : tlt xs[j - 1]! xs[j]!) : FnI ys x ((xs.set j xs[j - 1]!).set (j - 1) xs[j]!) (j - 1) := by
  obtain ⟨h1, h2, h3⟩ := h
  have hlen : ((xs.set j xs[j - 1]!).set (j - 1) xs[j]!).length = xs.length := by simp
  have hget : ∀ i, ((xs.set j xs[j - 1]!).set (j - 1) xs[j]!)[i]! = if i = j - 1 then xs[j]! else if i = j then xs[j - 1]! else xs[i]! := fun i => by
    rw [bang_set (by simp; omega), bang_set h2]
  refine ⟨?_, by rw [hlen]; omega, fun p q hpq hq hqj => ?_⟩
  · refine List.Perm.trans ?_ h1
    rw [getElem!_pos xs j h2, getElem!_pos xs (j - 1) (by omega)]
    have e : (xs.set j xs[j - 1]).set (j - 1) xs[j] = (xs.set (j - 1) xs[j]).set j xs[j - 1] := List.set_comm _ _ (by omega)
    have h4 : ((xs.set (j - 1) xs[j]).set j xs[j - 1]).Perm xs := List.set_set_perm (by omega) h2
    rw [e]
    exact h4
  · rw [hlen] at hq
    rw [hget, hget]
    by_cases q1 : q = j
    · subst q1
      rw [if_neg hqj, if_pos rfl]
      by_cases p1 : p = q - 1
      · rw [if_pos p1]; exact tlt_asym hl
      · rw [if_neg p1, if_neg (by omega)]; exact h3 p (q - 1) (by omega) (by omega) (by omega)
    · rw [if_neg hqj, if_neg q1]
      by_cases p1 : p = j - 1
      · rw [if_pos p1]; exact h3 j q (by omega) hq q1
      · rw [if_neg p1]
        by_cases p2 : p = j
        · rw [if_pos p2]; exact h3 (j - 1) q (by omega) hq q1
        · rw [if_neg p2]; exact h3 p q hpq hq q1
theorem fn_end {ys xs : List GTag} {x : GTag} {j : Nat} (h : FnI ys x xs j) (hl : ¬ (0 < j ∧ tlt xs[j - 1]! xs[j]!)) : xs.Perm (ys ++ [x]) ∧ xs.Pairwise fun x y => ¬ tlt x y := by
  obtain ⟨h1, h2, h3⟩ := h
  refine ⟨h1, ?_⟩
  rw [List.pairwise_iff_getElem]
  intro p q hp hq hpq
  have key : ¬ tlt xs[p]! xs[q]! := by
    by_cases q1 : q = j
    · subst q1
      have hj : ¬ tlt xs[q - 1]! xs[q]! := fun z => hl ⟨by omega, z⟩
      by_cases p1 : p = q - 1
      · rw [p1]; exact hj
      · have h5 := h3 p (q - 1) (by omega) (by omega) (by omega)
        intro z
        unfold tlt at *
        omega
    · exact h3 p q hpq hq q1
  rwa [getElem!_pos xs p hp, getElem!_pos xs q hq] at key
/-- The finalized tags of the first cells. -/
def FsI (C : List Ce) (key : ByteArray) (i : Nat) (xs : List GTag) : Prop := xs.Perm (finC (C.take i) key) ∧ xs.Pairwise fun x y => ¬ tlt x y
section
variable {C : List Ce} {key : ByteArray} {i : Nat} {xs ys : List GTag}
theorem fs_none (h : FsI C key i xs) (hi : i < C.length) (hf : ¬ (C[i]!.c.key = key ∧ C[i]!.c.e.Fin = true)) : FsI C key (i + 1) xs := by
  refine ⟨?_, h.2⟩
  unfold finC
  rw [List.take_succ_eq_append_getElem hi, List.filter_append, List.map_append, ← getElem!_pos C i hi]
  generalize C[i]! = y at hf ⊢
  have : fnC key y = false := by
    unfold fnC
    by_cases q : y.c.key = key
    · have : y.c.e.Fin = false := by cases hz : y.c.e.Fin; rfl; exact absurd ⟨q, hz⟩ hf
      simp [this]
    · simp [q]
  rw [List.filter_cons, this]
  simp only [Bool.false_eq_true, if_false, List.filter_nil, List.map_nil, List.append_nil]
  exact h.1
theorem fs_more (h : FsI C key i ys) (hi : i < C.length) (hf : C[i]!.c.key = key ∧ C[i]!.c.e.Fin = true) (hp : xs.Perm (ys ++ [C[i]!.c.e.Tag]) ∧ xs.Pairwise fun x y => ¬ tlt x y) : FsI C key (i + 1) xs := by
  refine ⟨hp.1.trans ?_, hp.2⟩
  unfold finC
  rw [List.take_succ_eq_append_getElem hi, List.filter_append, List.map_append, ← getElem!_pos C i hi]
  generalize C[i]! = y at hf ⊢
  have : fnC key y = true := by unfold fnC; simp [hf.1, hf.2]
  rw [List.filter_cons, this]
  simp only [if_true, List.filter_nil, List.map_cons, List.map_nil]
  exact h.1.append_right _
theorem fs_end (h : FsI C key i xs) (hi : C.length ≤ i) : xs = finD C key := by
  have := h.1
  rw [List.take_of_length_le hi] at this
  exact finD_uniq this h.2
end
def topD (C : List Ce) (key : ByteArray) : GTag := ((finD C key)[0]?).getD ⟨0, 0⟩
def floD (C : List Ce) (key : ByteArray) (dl : Nat) : GTag := ((finD C key)[dl]?).getD ⟨0, 0⟩
theorem getD_in {l : List GTag} {i : Nat} (h : i < l.length) : (l[i]?).getD ⟨0, 0⟩ = l[i]! := by
  rw [List.getElem?_eq_getElem h, getElem!_pos _ i h]; rfl
theorem getD_out {l : List GTag} {i : Nat} (h : l.length ≤ i) : (l[i]?).getD ⟨0, 0⟩ = ⟨0, 0⟩ := by
  rw [List.getElem?_eq_none h]; rfl
/-- It is this key's and this tag's cell. -/
def isC (key : ByteArray) (t : GTag) (y : Ce) : Prop := y.c.key = key ∧ y.c.e.Tag = t
/-- Which cell it is; -1: none. -/
def AtR (C : List Ce) (key : ByteArray) (t : GTag) (i : Int) : Prop := (i = -1 ∧ ∀ k, k < C.length → ¬ isC key t C[k]!) ∨ (∃ k : Nat, i = k ∧ k < C.length ∧ isC key t C[k]! ∧ ∀ p, p < k → ¬ isC key t C[p]!)
theorem AtR.one {C : List Ce} {key : ByteArray} {t : GTag} {i j : Int} (h : AtR C key t i) (k : AtR C key t j) : j = i := by
  rcases h with ⟨rfl, h⟩ | ⟨a, rfl, h1, h2, h3⟩
  · rcases k with ⟨rfl, _⟩ | ⟨b, rfl, k1, k2, _⟩
    · rfl
    · exact absurd k2 (h b k1)
  · rcases k with ⟨rfl, k⟩ | ⟨b, rfl, k1, k2, k3⟩
    · exact absurd h2 (k a h1)
    · rcases Nat.lt_trichotomy a b with q | q | q
      · exact absurd h2 (k3 a q)
      · rw [q]
      · exact absurd k2 (h3 b q)
end Go.Proofs.Ytdkgdidnknojlaa.K
namespace Go.Proofs.Ytdkgdidnknojlaa.K
open Go Go.RowKit
set_option linter.unusedVariables false
/-- A cell, plainly: key, tag, finalized, there, data. -/
abbrev It := ByteArray × GTag × Bool × Bool × ByteArray
def itC (y : Ce) : It := (y.c.key, y.c.e.Tag, y.c.e.Fin, y.c.e.Has, y.d)
def CB (w : World) (C : List Ce) : Prop := ∀ y ∈ C, Bt w y.c.e.Data y.d ∧ y.d.size ≤ 65540
theorem CB.fram {w w' : World} {C : List Ce} (h : CB w C) (hf : Fram Non w w') : CB w' C := fun y hy => ⟨(h y hy).1.fram hf, (h y hy).2⟩
theorem bang_mem {α : Type} [Inhabited α] {l : List α} {i : Nat} (h : i < l.length) : l[i]! ∈ l := by rw [getElem!_pos l i h]; exact List.getElem_mem h
theorem set_get {α : Type} [Inhabited α] {l : List α} {k j : Nat} {x : α} (h : k < l.length) : (l.set k x)[j]! = if j = k then x else l[j]! := bang_set h
theorem CB.at {w : World} {C : List Ce} (h : CB w C) {i : Nat} (hi : i < C.length) : Bt w C[i]!.c.e.Data C[i]!.d ∧ C[i]!.d.size ≤ 65540 := h _ (bang_mem hi)
theorem take_sameB {l m : List Int} {k : Nat} (h1 : k < l.length) (h2 : k < m.length) (h : l.take k = m.take k) (e : l[k]! = m[k]!) : l.take (k + 1) = m.take (k + 1) := by
  rw [List.take_add_one, List.take_add_one, h, List.getElem?_eq_getElem h1, List.getElem?_eq_getElem h2, ← getElem!_pos l k h1, ← getElem!_pos m k h2, e]
theorem bytesI_inj2 {s t : ByteArray} (h : bytesI s = bytesI t) : s = t := by
  have key : ∀ {a b : List UInt8}, a.map (fun z => (z.toNat : Int)) = b.map (fun z => (z.toNat : Int)) → a = b := by
    intro a
    induction a with
    | nil => intro b hb; cases b with | nil => rfl | cons _ _ => simp at hb
    | cons x a ih =>
      intro b hb
      cases b with
      | nil => simp at hb
      | cons y b =>
        simp only [List.map_cons, List.cons.injEq] at hb
        rw [ih hb.2, show x = y from UInt8.toNat_inj.1 (by omega)]
  obtain ⟨⟨a⟩⟩ := s
  obtain ⟨⟨b⟩⟩ := t
  have := key (a := a) (b := b) h
  rw [this]
theorem takeC_same {C1 C2 : List Ce} {k : Nat} (h1 : k < C1.length) (h2 : k < C2.length) (h : (C1.take k).map itC = (C2.take k).map itC) (e : itC C1[k]! = itC C2[k]!) : (C1.take (k + 1)).map itC = (C2.take (k + 1)).map itC := by
  rw [List.take_add_one, List.take_add_one, List.getElem?_eq_getElem h1, List.getElem?_eq_getElem h2, ← getElem!_pos C1 k h1, ← getElem!_pos C2 k h2, List.map_append, List.map_append, h]
  exact congrArg (fun z => (C2.take k).map itC ++ [z]) e
theorem mapC_at {C1 C2 : List Ce} (h : C1.map itC = C2.map itC) {k : Nat} (h1 : k < C1.length) : itC C1[k]! = itC C2[k]! := by
  have hl : C1.length = C2.length := by simpa using congrArg List.length h
  have e : (C1.map itC)[k]? = (C2.map itC)[k]? := by rw [h]
  rw [List.getElem?_map, List.getElem?_map, List.getElem?_eq_getElem h1, List.getElem?_eq_getElem (by omega)] at e
  rw [getElem!_pos C1 k h1, getElem!_pos C2 k (by omega)]
  simpa using e
theorem tag_eq {a b : GTag} : a = b ↔ a.Count = b.Count ∧ a.Client = b.Client := by
  cases a; cases b; simp
theorem isC_iff {key : ByteArray} {t : GTag} {y : Ce} : isC key t y ↔ y.c.key = key ∧ y.c.e.Tag.Count = t.Count ∧ y.c.e.Tag.Client = t.Client := by
  unfold isC; rw [tag_eq]
theorem at_step {C : List Ce} {key : ByteArray} {t : GTag} {i : Nat} (h : ∀ p, p < i → ¬ isC key t C[p]!) (hi : ¬ isC key t C[i]!) : ∀ p, p < i + 1 → ¬ isC key t C[p]! := fun p hp => by
  rcases Nat.lt_or_ge p i with q | q
  · exact h p q
  · obtain rfl : p = i := by omega
    exact hi
/-- The two entries are the same. -/
def SameE (e f : GEntry) (d x : ByteArray) : Prop := e.Tag = f.Tag ∧ e.Fin = f.Fin ∧ e.Has = f.Has ∧ d = x
theorem itC_eq {y z : Ce} : itC y = itC z ↔ y.c.key = z.c.key ∧ SameE y.c.e z.c.e y.d z.d := by
  unfold itC SameE
  simp only [Prod.mk.injEq]
/-- What a fragment makes of the document's shelf: nobody's cell; somebody's. -/
def nocell (C : List Ce) (key : ByteArray) (t : GTag) : Prop := ∀ p, p < C.length → ¬ isC key t C[p]!
def PreN (C : List Ce) (D : List (SlH × ByteArray)) (key : ByteArray) (t : GTag) (d : ByteArray) (dl : Nat) (C2 : List Ce) (D2 : List (SlH × ByteArray)) : Prop :=
  (tlt t (floD C key dl) ∧ C2 = C ∧ D2 = D) ∨
  (¬ tlt t (floD C key dl) ∧ ∃ h X, C2 = C ++ [⟨⟨key, ⟨t, false, true, h⟩⟩, d⟩] ∧ D2 = D ++ X ∧ Dk D2 h d)
def PreK (C : List Ce) (D : List (SlH × ByteArray)) (key : ByteArray) (t : GTag) (d : ByteArray) (dl k : Nat) (C2 : List Ce) (D2 : List (SlH × ByteArray)) : Prop :=
  ((tlt t (floD C key dl) ∨ C[k]!.c.e.Has = true) ∧ C2 = C ∧ D2 = D) ∨
  (¬ tlt t (floD C key dl) ∧ ¬ C[k]!.c.e.Has = true ∧ ∃ h X, C2 = C.set k ⟨⟨C[k]!.c.key, ⟨C[k]!.c.e.Tag, C[k]!.c.e.Fin, true, h⟩⟩, d⟩ ∧ D2 = D ++ X ∧ Dk D2 h d)
def leftC (C : List Ce) (key : ByteArray) (f : GTag) : List Ce := C.filter fun y => !decide (y.c.key = key ∧ tlt y.c.e.Tag f)
def FinN (C : List Ce) (key : ByteArray) (t : GTag) (dl : Nat) (C2 : List Ce) : Prop :=
  (tlt t (floD C key dl) ∧ C2 = C) ∨
  (¬ tlt t (floD C key dl) ∧ ∃ C1, C1 = C ++ [⟨⟨key, ⟨t, true, false, ⟨none, 0, 0⟩⟩⟩, ⟨#[]⟩⟩] ∧ C2 = leftC C1 key (floD C1 key dl))
def FinK (C : List Ce) (key : ByteArray) (t : GTag) (dl k : Nat) (C2 : List Ce) : Prop :=
  (tlt t (floD C key dl) ∧ C2 = C) ∨
  (¬ tlt t (floD C key dl) ∧ ∃ C1, C1 = C.set k ⟨⟨C[k]!.c.key, ⟨C[k]!.c.e.Tag, true, C[k]!.c.e.Has, C[k]!.c.e.Data⟩⟩, C[k]!.d⟩ ∧ C2 = leftC C1 key (floD C1 key dl))
theorem left_keep {C : List Ce} {key : ByteArray} {f : GTag} {i : Nat} (hi : i < C.length) (h : ¬ (C[i]!.c.key = key ∧ tlt C[i]!.c.e.Tag f)) : leftC (C.take i) key f ++ [C[i]!] = leftC (C.take (i + 1)) key f := by
  unfold leftC
  rw [List.take_succ_eq_append_getElem hi, List.filter_append, ← getElem!_pos C i hi, List.filter_cons]
  generalize C[i]! = y at h ⊢
  simp [h]
theorem left_drop {C : List Ce} {key : ByteArray} {f : GTag} {i : Nat} (hi : i < C.length) (h : C[i]!.c.key = key ∧ tlt C[i]!.c.e.Tag f) : leftC (C.take i) key f = leftC (C.take (i + 1)) key f := by
  unfold leftC
  rw [List.take_succ_eq_append_getElem hi, List.filter_append, ← getElem!_pos C i hi, List.filter_cons]
  generalize C[i]! = y at h ⊢
  simp [h]
theorem left_all {C : List Ce} {key : ByteArray} {f : GTag} {i : Nat} (hi : C.length ≤ i) : leftC (C.take i) key f = leftC C key f := by rw [List.take_of_length_le hi]
theorem at_cases (C : List Ce) (key : ByteArray) (t : GTag) : (AtR C key t (-1) ∧ nocell C key t) ∨ ∃ k : Nat, AtR C key t (k : Int) ∧ k < C.length ∧ isC key t C[k]! ∧ ∀ p, p < k → ¬ isC key t C[p]! := by
  have key : ∀ n, n ≤ C.length → (∀ p, p < n → ¬ isC key t C[p]!) ∨ ∃ k, k < n ∧ isC key t C[k]! ∧ ∀ p, p < k → ¬ isC key t C[p]! := by
    intro n
    induction n with
    | zero => exact fun _ => .inl fun p hp => absurd hp (by omega)
    | succ n ih =>
      intro hn
      rcases ih (by omega) with h | ⟨k, hk, h1, h2⟩
      · rcases Classical.em (isC key t C[n]!) with q | q
        · exact .inr ⟨n, by omega, q, h⟩
        · exact .inl (at_step h q)
      · exact .inr ⟨k, by omega, h1, h2⟩
  rcases key C.length (Nat.le_refl _) with h | ⟨k, hk, h1, h2⟩
  · exact .inl ⟨.inl ⟨rfl, h⟩, h⟩
  · exact .inr ⟨k, .inr ⟨k, rfl, hk, h1, h2⟩, hk, h1, h2⟩
def atK (C : List Ce) (key : ByteArray) (t : GTag) (k : Nat) : Prop := k < C.length ∧ isC key t C[k]! ∧ ∀ p, p < k → ¬ isC key t C[p]!
def PreD (C : List Ce) (D : List (SlH × ByteArray)) (key : ByteArray) (t : GTag) (d : ByteArray) (dl : Nat) (C2 : List Ce) (D2 : List (SlH × ByteArray)) : Prop :=
  (nocell C key t ∧ PreN C D key t d dl C2 D2) ∨ (∃ k, atK C key t k ∧ PreK C D key t d dl k C2 D2)
def FinD (C : List Ce) (key : ByteArray) (t : GTag) (dl : Nat) (C2 : List Ce) : Prop :=
  (nocell C key t ∧ FinN C key t dl C2) ∨ (∃ k, atK C key t k ∧ FinK C key t dl k C2)
theorem PreD.len {C C2 : List Ce} {D D2 : List (SlH × ByteArray)} {key : ByteArray} {t : GTag} {d : ByteArray} {dl : Nat} (h : PreD C D key t d dl C2 D2) : C2.length ≤ C.length + 1 := by
  rcases h with ⟨_, ⟨_, rfl, _⟩ | ⟨_, h, X, rfl, _⟩⟩ | ⟨k, _, ⟨_, rfl, _⟩ | ⟨_, _, h, X, rfl, _⟩⟩
  · omega
  · simp
  · omega
  · simp
def ApD (C : List Ce) (D : List (SlH × ByteArray)) (u : GUpdate) (d : ByteArray) (dl : Nat) (C2 : List Ce) (D2 : List (SlH × ByteArray)) : Prop :=
  ∃ C1, ((comesU u ∧ PreD C D u.Key u.Entry.Tag d dl C1 D2) ∨ (¬ comesU u ∧ C1 = C ∧ D2 = D)) ∧ ((endsU u ∧ FinD C1 u.Key u.Entry.Tag dl C2) ∨ (¬ endsU u ∧ C2 = C1))
/-- What makes holds tell true. -/
structure HolOk (C : List Ce) (hs : List Hd) : Prop where
  ne : ∀ i, i < hs.length → 0 < hs[i]!.ls.length
  keys : ∀ i, 0 < i → i < hs.length → Op.bytesLess hs[i - 1]!.h.Key.toList hs[i]!.h.Key.toList = true
  cell : ∀ i j, i < hs.length → j < hs[i]!.ls.length → ∃ k : Nat, AtR C hs[i]!.h.Key hs[i]!.ls[j]!.e.Tag (k : Int) ∧ k < C.length ∧ SameE C[k]!.c.e hs[i]!.ls[j]!.e C[k]!.d hs[i]!.ls[j]!.d
  tags : ∀ i j, i < hs.length → 0 < j → j < hs[i]!.ls.length → tlt hs[i]!.ls[j - 1]!.e.Tag hs[i]!.ls[j]!.e.Tag
  count : (hs.map fun y => y.ls.length).sum = C.length
def sumH (hs : List Hd) (i : Nat) : Nat := ((hs.take i).map fun y => y.ls.length).sum
theorem sumH_succ {hs : List Hd} {i : Nat} (h : i < hs.length) : sumH hs (i + 1) = sumH hs i + hs[i]!.ls.length := by
  unfold sumH
  rw [List.take_succ_eq_append_getElem h, ← getElem!_pos hs i h, List.map_append, List.sum_append]
  simp
theorem sumH_all {hs : List Hd} {i : Nat} (h : hs.length ≤ i) : sumH hs i = (hs.map fun y => y.ls.length).sum := by unfold sumH; rw [List.take_of_length_le h]
theorem sumH_le {hs : List Hd} {i : Nat} (h : i ≤ hs.length) : sumH hs i ≤ (hs.map fun y => y.ls.length).sum := by
  have : hs = hs.take i ++ hs.drop i := (List.take_append_drop i hs).symm
  unfold sumH
  rw [show ((hs.map fun y => y.ls.length).sum) = (((hs.take i ++ hs.drop i)).map fun y => y.ls.length).sum from by rw [← this], List.map_append, List.sum_append]
  omega
/-- How many fragments of finalized tags stand among the first. -/
def cntF (ls : List En) (i : Nat) : Nat := ((ls.take i).filter fun x => x.e.Has && x.e.Fin).length
theorem cntF_le (ls : List En) (i : Nat) : cntF ls i ≤ i := Nat.le_trans (List.length_filter_le _ _) (by rw [List.length_take]; omega)
theorem cntF_more {ls : List En} {i : Nat} (hi : i < ls.length) (h : ls[i]!.e.Has = true ∧ ls[i]!.e.Fin = true) : cntF ls (i + 1) = cntF ls i + 1 := by
  unfold cntF
  rw [List.take_succ_eq_append_getElem hi, List.filter_append, ← getElem!_pos ls i hi, List.filter_cons]
  generalize ls[i]! = y at h ⊢
  simp [h]
theorem cntF_same {ls : List En} {i : Nat} (hi : i < ls.length) (h : ¬ (ls[i]!.e.Has = true ∧ ls[i]!.e.Fin = true)) : cntF ls (i + 1) = cntF ls i := by
  unfold cntF
  rw [List.take_succ_eq_append_getElem hi, List.filter_append, ← getElem!_pos ls i hi, List.filter_cons]
  generalize ls[i]! = y at h ⊢
  simp_all
theorem cntF_all {ls : List En} {i : Nat} (h : ls.length ≤ i) : cntF ls i = (ls.filter fun x => x.e.Has && x.e.Fin).length := by unfold cntF; rw [List.take_of_length_le h]
end Go.Proofs.Ytdkgdidnknojlaa.K
namespace Go.Proofs.Ytdkgdidnknojlaa.K
open Go Go.RowKit
set_option linter.unusedVariables false
abbrev Vt := Bool × Bool × ByteArray
def ktC (y : Ce) : ByteArray × GTag := (y.c.key, y.c.e.Tag)
def vC (y : Ce) : Vt := (y.c.e.Fin, y.c.e.Has, y.d)
def vN (x : En) : Vt := (x.e.Fin, x.e.Has, x.d)
def memT (T : Tb) (key : ByteArray) (t : GTag) (v : Vt) : Prop := ∃ x, mapV (shO (shK T key)) t = some x ∧ vN x = v
def memC (C : List Ce) (key : ByteArray) (t : GTag) (v : Vt) : Prop := ∃ y ∈ C, isC key t y ∧ vC y = v
structure GoodC (y : Ce) : Prop where
  some : y.c.e.Fin = true ∨ y.c.e.Has = true
  nod : ¬ y.c.e.Has = true → y.d = ⟨#[]⟩
  size : y.d.size ≤ 65540
  key : 1 ≤ y.c.key.size ∧ y.c.key.size ≤ 64
  tag : tagProper y.c.e.Tag
structure DocI (C : List Ce) (dl : Nat) : Prop where
  nd : (C.map ktC).Nodup
  flo : ∀ y ∈ C, ¬ tlt y.c.e.Tag (floD C y.c.key dl)
  fin : ∀ key, (finD C key).length ≤ dl + 1
  good : ∀ y ∈ C, GoodC y
theorem docI_nil (dl : Nat) : DocI [] dl := ⟨List.nodup_nil, (fun y hy => by cases hy), (fun key => by simp [finD, finC]), fun y hy => by cases hy⟩
section
variable {C C2 : List Ce} {key key' : ByteArray} {t t' f g : GTag} {v : Vt} {y : Ce} {k dl : Nat} {T T2 : Tb} {l : List (GTag × En)}
theorem mem_finC : t ∈ finC C key ↔ ∃ y ∈ C, isC key t y ∧ y.c.e.Fin = true := by
  unfold finC
  rw [List.mem_map]
  constructor
  · rintro ⟨y, hy, rfl⟩
    rw [List.mem_filter] at hy
    have h := hy.2
    unfold fnC at h
    rw [Bool.and_eq_true, decide_eq_true_eq] at h
    exact ⟨y, hy.1, ⟨h.1, rfl⟩, h.2⟩
  · rintro ⟨y, hy, ⟨h1, h2⟩, h3⟩
    refine ⟨y, List.mem_filter.2 ⟨hy, ?_⟩, h2⟩
    unfold fnC
    rw [Bool.and_eq_true, decide_eq_true_eq]
    exact ⟨h1, h3⟩
theorem mem_finD : t ∈ finD C key ↔ ∃ y ∈ C, isC key t y ∧ y.c.e.Fin = true := by unfold finD; rw [List.mem_mergeSort, mem_finC]
theorem mem_finD2 : t ∈ finD C key ↔ ∃ h d, memC C key t (true, h, d) := by
  rw [mem_finD]
  constructor
  · rintro ⟨y, h1, h2, h3⟩; exact ⟨y.c.e.Has, y.d, y, h1, h2, by unfold vC; rw [h3]⟩
  · rintro ⟨h, d, y, h1, h2, h3⟩; exact ⟨y, h1, h2, by unfold vC at h3; exact congrArg Prod.fst h3⟩
theorem finD_desc (C : List Ce) (key : ByteArray) : (finD C key).Pairwise fun x y => ¬ tlt x y := (List.pairwise_mergeSort geT_trans geT_total _).imp fun h => geT_iff.1 h
theorem finD_nd (h : (C.map ktC).Nodup) : (finD C key).Nodup := by
  unfold finD
  refine (List.mergeSort_perm _ _).symm.nodup ?_
  unfold finC
  rw [List.Nodup, List.pairwise_map] at *
  refine (h.sublist (List.filter_sublist (p := fnC key))).imp_of_mem fun {a b} ha hb hab e => hab ?_
  have h1 := (List.mem_filter.1 ha).2
  have h2 := (List.mem_filter.1 hb).2
  unfold fnC at h1 h2
  rw [Bool.and_eq_true, decide_eq_true_eq] at h1 h2
  unfold ktC
  rw [h1.1, h2.1, e]
theorem mem_finS (hn : (l.map Prod.fst).Nodup) : t ∈ finS l ↔ ∃ x, mapV l t = some x ∧ x.e.Fin = true := by
  unfold finS
  rw [List.mem_mergeSort, List.mem_map]
  constructor
  · rintro ⟨⟨a, x⟩, hp, rfl⟩
    rw [List.mem_filter] at hp
    exact ⟨x, mapV_of_mem hn hp.1, hp.2⟩
  · rintro ⟨x, h1, h2⟩
    exact ⟨(t, x), List.mem_filter.2 ⟨mapV_mem h1, h2⟩, rfl⟩
theorem finS_nd (hn : (l.map Prod.fst).Nodup) : (finS l).Nodup := by
  unfold finS
  refine (List.mergeSort_perm _ _).symm.nodup ?_
  rw [List.Nodup, List.pairwise_map] at *
  exact hn.sublist List.filter_sublist
/-- The same finalized tags. -/
theorem fin_same (hn : (l.map Prod.fst).Nodup) (hd : (C.map ktC).Nodup) (h : ∀ t v, (∃ x, mapV l t = some x ∧ vN x = v) ↔ memC C key t v) : finS l = finD C key := by
  refine finD_uniq ?_ (finS_desc l)
  refine List.Perm.trans ?_ (List.mergeSort_perm (finC C key) geT)
  refine (List.perm_ext_iff_of_nodup (finS_nd hn) (finD_nd hd)).2 fun a => ?_
  show _ ↔ a ∈ finD C key
  rw [mem_finS hn, mem_finD2]
  constructor
  · rintro ⟨x, h1, h2⟩
    exact ⟨x.e.Has, x.d, (h a _).1 ⟨x, h1, by unfold vN; rw [h2]⟩⟩
  · rintro ⟨hh, d, h1⟩
    obtain ⟨x, h2, h3⟩ := (h a _).2 h1
    exact ⟨x, h2, by unfold vN at h3; exact congrArg Prod.fst h3⟩
theorem split_set (h : k < C.length) : ∃ A B, C = A ++ C[k]! :: B ∧ ∀ y, C.set k y = A ++ y :: B := by
  refine ⟨C.take k, C.drop (k + 1), ?_, fun y => ?_⟩
  · rw [getElem!_pos C k h, List.getElem_cons_drop, List.take_append_drop]
  · rw [List.set_eq_take_append_cons_drop, if_pos h]
theorem kt_iff : ktC y = (key, t) ↔ isC key t y := by unfold ktC isC; rw [Prod.mk.injEq]
/-- Content behind a cell more. -/
theorem memC_app (hy : isC key t y) (hno : ∀ p, p < C.length → ¬ isC key t C[p]!) : memC (C ++ [y]) key' t' v ↔ (key' = key ∧ t' = t ∧ v = vC y) ∨ (¬ (key' = key ∧ t' = t) ∧ memC C key' t' v) := by
  have hno2 : ∀ z ∈ C, ¬ isC key t z := fun z hz => by
    obtain ⟨i, hi, rfl⟩ := List.mem_iff_getElem.1 hz
    have := hno i hi
    rwa [getElem!_pos C i hi] at this
  constructor
  · rintro ⟨z, hz, h1, h2⟩
    rcases List.mem_append.1 hz with hz | hz
    · refine .inr ⟨?_, z, hz, h1, h2⟩
      rintro ⟨rfl, rfl⟩; exact hno2 z hz h1
    · obtain rfl := List.mem_singleton.1 hz
      exact .inl ⟨h1.1.symm.trans hy.1, h1.2.symm.trans hy.2, h2.symm⟩
  · rintro (⟨rfl, rfl, rfl⟩ | ⟨_, z, hz, h1, h2⟩)
    · exact ⟨y, by simp, hy, rfl⟩
    · exact ⟨z, List.mem_append_left _ hz, h1, h2⟩
theorem memC_set (hd : (C.map ktC).Nodup) (hk : k < C.length) (hx : isC key t C[k]!) (hy : isC key t y) : memC (C.set k y) key' t' v ↔ (key' = key ∧ t' = t ∧ v = vC y) ∨ (¬ (key' = key ∧ t' = t) ∧ memC C key' t' v) := by
  obtain ⟨A, B, h1, h2⟩ := split_set hk
  rw [h2]
  generalize C[k]! = x at h1 hx
  subst h1
  rw [List.map_append, List.map_cons] at hd
  have hd2 := List.nodup_append.1 hd
  have hd3 := List.nodup_cons.1 hd2.2.1
  have hkx : ktC x = (key, t) := kt_iff.2 hx
  have hA : ∀ z ∈ A, ¬ isC key t z := fun z hz q => hd2.2.2 _ (List.mem_map_of_mem hz) _ (List.mem_cons_self ..) (by rw [kt_iff.2 q, hkx])
  have hB : ∀ z ∈ B, ¬ isC key t z := fun z hz q => hd3.1 (by rw [hkx, ← kt_iff.2 q]; exact List.mem_map_of_mem hz)
  constructor
  · rintro ⟨z, hz, h1, h2⟩
    rcases List.mem_append.1 hz with hz | hz
    · exact .inr ⟨by rintro ⟨rfl, rfl⟩; exact hA z hz h1, z, by simp [hz], h1, h2⟩
    · rcases List.mem_cons.1 hz with rfl | hz
      · exact .inl ⟨h1.1.symm.trans hy.1, h1.2.symm.trans hy.2, h2.symm⟩
      · exact .inr ⟨by rintro ⟨rfl, rfl⟩; exact hB z hz h1, z, by simp [hz], h1, h2⟩
  · rintro (⟨rfl, rfl, rfl⟩ | ⟨hn, z, hz, h1, h2⟩)
    · exact ⟨y, by simp, hy, rfl⟩
    · rcases List.mem_append.1 hz with hz | hz
      · exact ⟨z, by simp [hz], h1, h2⟩
      · rcases List.mem_cons.1 hz with rfl | hz
        · exact absurd ⟨h1.1.symm.trans hx.1, h1.2.symm.trans hx.2⟩ hn
        · exact ⟨z, by simp [hz], h1, h2⟩
theorem memC_left : memC (leftC C key f) key' t' v ↔ memC C key' t' v ∧ ¬ (key' = key ∧ tlt t' f) := by
  unfold memC leftC
  constructor
  · rintro ⟨z, hz, h1, h2⟩
    rw [List.mem_filter] at hz
    refine ⟨⟨z, hz.1, h1, h2⟩, ?_⟩
    have h3 := hz.2
    simp only [Bool.not_eq_true', decide_eq_false_iff_not] at h3
    rwa [h1.1, h1.2] at h3
  · rintro ⟨⟨z, hz, h1, h2⟩, h3⟩
    refine ⟨z, List.mem_filter.2 ⟨hz, ?_⟩, h1, h2⟩
    simp only [Bool.not_eq_true', decide_eq_false_iff_not]
    rwa [h1.1, h1.2]
theorem shK_put {o : Option Sf} : shK (mapPut T key o) key' = if key' = key then o else shK T key' := by
  unfold shK
  rw [mapV_put]
  by_cases h : key' = key
  · rw [if_pos h, if_pos h]; rfl
  · rw [if_neg h, if_neg h]
theorem memT_put {b : Nat} {x : En} (hx : x.e.Tag = g) : memT (mapPut T key (some ⟨b, mapPut (shO (shK T key)) g x⟩)) key' t' v ↔ (key' = key ∧ t' = g ∧ v = vN x) ∨ (¬ (key' = key ∧ t' = g) ∧ memT T key' t' v) := by
  unfold memT
  rw [shK_put]
  by_cases h : key' = key
  · subst h
    rw [if_pos rfl]
    show (∃ z, mapV (mapPut (shO (shK T key')) g x) t' = some z ∧ vN z = v) ↔ _
    rw [mapV_put]
    by_cases h2 : t' = g
    · subst h2
      rw [if_pos rfl]
      constructor
      · rintro ⟨z, h3, h4⟩; cases h3; exact .inl ⟨rfl, rfl, h4.symm⟩
      · rintro (⟨_, _, rfl⟩ | ⟨h3, _⟩)
        · exact ⟨x, rfl, rfl⟩
        · exact absurd ⟨rfl, rfl⟩ h3
    · rw [if_neg h2]
      constructor
      · intro h3; exact .inr ⟨fun q => h2 q.2, h3⟩
      · rintro (⟨_, q, _⟩ | ⟨_, h3⟩)
        · exact absurd q h2
        · exact h3
  · rw [if_neg h]
    constructor
    · intro h3; exact .inr ⟨fun q => h q.1, h3⟩
    · rintro (⟨q, _, _⟩ | ⟨_, h3⟩)
      · exact absurd q h
      · exact h3
theorem mapV_filter {q : GTag → Bool} : ∀ {l : List (GTag × En)}, mapV (l.filter fun p => q p.1) t = if q t = true then mapV l t else none
  | [] => by simp [mapV_nil]
  | p :: l => by
    rw [List.filter_cons, mapV_cons]
    by_cases h : q p.1 = true
    · rw [if_pos h, mapV_cons, mapV_filter (l := l)]
      by_cases e : t = p.1
      · rw [if_pos e, if_pos e, e, if_pos h]
      · rw [if_neg e, if_neg e]
    · rw [if_neg h, mapV_filter (l := l)]
      by_cases e : t = p.1
      · rw [e, if_neg h, if_neg h]
      · rw [if_neg e]
theorem memT_keep {b c : Nat} : memT (mapPut T key (some ⟨b, keepT l f⟩)) key' t' v ↔ memT (mapPut T key (some ⟨c, l⟩)) key' t' v ∧ ¬ (key' = key ∧ tlt t' f) := by
  unfold memT
  rw [shK_put, shK_put]
  by_cases h : key' = key
  · subst h
    rw [if_pos rfl, if_pos rfl]
    show (∃ z, mapV (keepT l f) t' = some z ∧ vN z = v) ↔ (∃ z, mapV l t' = some z ∧ vN z = v) ∧ _
    unfold keepT
    rw [mapV_filter (q := fun z => !decide (tlt z f))]
    by_cases h2 : tlt t' f
    · simp [h2]
    · simp [h2]
  · simp [h]
end
end Go.Proofs.Ytdkgdidnknojlaa.K
