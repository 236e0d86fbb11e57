/- Batches: many operations at once, reckoned by the kernel. -/
import Derived.Test.YtbpedjefoajegaaDoorCoreC
namespace Go.Proofs.YtbpedjefoajegaaDoor.K
open Go

def adr (b : Option Addr) : Addr := b.getD ⟨0, 0, none⟩
def byteAt (s : ByteArray) (i : Int) : Int := ((s.data.toList[i.toNat]?).getD 0).toNat
def slOff (a : Option Addr) (cap l size : Nat) : Option Addr := if cap = l then a else a.map (·.add (l * size))
/-- Reading a variable. -/
def Ld (P : Program) (w : World) (t : TypeId) (a : Addr) (v : Value) : Prop := (loadVar t a).run P w = .ok v w
def Lk (P : Program) (w : World) (t : TypeId) (m k : Value) (ok : Bool) (v : Value) : Prop := (Instr.lookup t m k ok).run P w = .ok v w
def Bs (P : Program) (w : World) (x : Value) (s : Value) : Prop := (Conv.bytesToString x).run P w = .ok s w
def MapLen (w : World) (m : Option Nat) (v : Value) : Prop := ∃ n, v = .int .i64 n ∧ ((m = none ∧ n = 0) ∨ ∃ r es c, m = some r ∧ w.heap[r]? = some (.map es c) ∧ n = es.size)

def wrapsAt (H : Hints) : Option Tmp → Bool
  | some d => H.wraps.any (Nat.beq d)
  | none => false

def builtinV (P : Program) (w : World) (e : Env) (ls : List Value) (b : Builtin) (args : Array Operand) (ts : Array TypeId) : Option (Value × List Prop × List Value) :=
  match b with
  | .len => match args[0]?, ts[0]? with
    | some x, some t => match P.underlying t, ev e x with
      | some .string, .string s => some (.int .i64 s.size, [], ls)
      | some (.slice _), .slice _ n _ => some (.int .i64 n, [], ls)
      | some (.array n _), _ => some (.int .i64 n, [], ls)
      | some (.map _ _), .map m => match ls with
        | v :: ls => some (v, [MapLen w m v], ls)
        | [] => none
      | _, _ => none
    | _, _ => none
  | .cap => match args[0]?, ts[0]? with
    | some x, some t => match P.underlying t, ev e x with
      | some (.slice _), .slice _ _ c => some (.int .i64 c, [], ls)
      | _, _ => none
    | _, _ => none
  | .max => match args.toList.map (ev e) with
    | [.int k x, .int _ y] => some (.int k (max x y), [], ls)
    | _ => none
  | .min => match args.toList.map (ev e) with
    | [.int k x, .int _ y] => some (.int k (min x y), [], ls)
    | _ => none
  | _ => none

def pureOp0 (P : Program) (w : World) (H : Hints) (e : Env) (ls : List Value) (o : Oper) : Option (Value × List Prop × List Value) :=
  let wr := wrapsAt H o.dst
  match o.op with
  | .move x | .assign x => some (ev e x, [], ls)
  | .pick c a b => if wr then (match ev e c with | .bool c => some (bif c then ev e a else ev e b, [], ls) | _ => none) else match ev e c, ev e a, ev e b with
    | .bool c, .bool x, .bool y => some (.bool (bif c then x else y), [], ls)
    | .bool c, .int k x, .int k' y => if k = k' then some (.int k (bif c then x else y), [], ls) else none
    | .bool c, .string x, .string y => some (.string (bif c then x else y), [], ls)
    | _, _, _ => none
  | .nilCheck x => match ev e x with
    | .pointer (some a) => some (.pointer (some a), [], ls)
    | .func (.func f) fi ca => some (.func (.func f) fi ca, [], ls)
    | _ => none
  | .binOp op t x y _ => match binV P op wr (isConst x || isConst y) t (ev e x) (ev e y) with
    | some (v, vc) => some (v, vc, ls)
    | none => none
  | .unOp op _ x => match op, ev e x with
    | .not, .bool b => some (.bool (!b), [], ls)
    | .neg, .int k n => if wr then some (.int k (k.wrap (0 - n)), [], ls) else some (.int k (-n), [Rng k (-n)], ls)
    | .xor, .int k n => some (.int k (k.wrap (BitVec.ofInt k.bits (if k.signed then -1 else k.max) ^^^ BitVec.ofInt k.bits n).toNat), [], ls)
    | _, _ => none
  | .convert src dst x => match P.underlying src, P.underlying dst, ev e x with
    | some _, some (.int k), .int _ n => if wr then some (.int k (k.wrap n), [], ls) else some (.int k n, [Rng k n], ls)
    | some .string, some .string, .string s => some (.string s, [], ls)
    | some (.slice el), some .string, .slice a n c => match P.underlying el, ls with
      | some (.int .u8), v :: ls => some (v, [Bs P w (.slice a n c) v], ls)
      | _, _ => none
    | _, _, _ => none
  | .makeInterface t x => match P.underlying t with
    | some (.interface _) => none
    | some _ => some (.iface t (ev e x), [], ls)
    | none => none
  | .makeFunc fn fi ca => some (.func fn (fi.map (ev e)) (ca.map (ev e)), [], ls)
  | .fieldAddr s x f => match P.underlying s, ev e x with
    | some (.struct fs), .pointer (some a) => match fs[f]? with
      | some fd => match P.info? fd.type with
        | some i => if i.size = 0 then none else some (.pointer (some (a.add fd.offset)), [], ls)
        | none => none
      | none => none
    | _, _ => none
  | .field t x f => match P.underlying t, ev e x with
    | some (.struct fs), .agg cs => match fs[f]? with
      | some fd => match partV P fd.type cs fd.offset with
        | some v => some (v, [], ls)
        | none => none
      | none => none
    | _, _ => none
  | .indexAddr t x ix => match P.underlying t, ev e x, ev e ix with
    | some (.slice el), .slice a n _, .int _ i => match P.info? el with
      | some inf => some (.pointer (some ((adr a).add (i.toNat * inf.size))), [InB i n, a.isSome = true], ls)
      | none => none
    | some (.array n el), .pointer (some a), .int _ i => match P.info? el with
      | some inf => some (.pointer (some (a.add (i.toNat * inf.size))), [InB i n], ls)
      | none => none
    | _, _, _ => none
  | .index t x ix => match P.underlying t, ev e x, ev e ix with
    | some .string, .string s, .int _ i => some (.int .u8 (byteAt s i), [InB i s.size], ls)
    | some (.array n el), .agg cs, .int _ i => match P.info? el, ls with
      | some inf, v :: ls => some (v, [InB i n ∧ partV P el cs (i.toNat * inf.size) = some v], ls)
      | _, _ => none
    | _, _, _ => none
  | .extract x i => match ev e x with
    | .tuple vs => match vs[i]? with
      | some v => some (v, [], ls)
      | none => none
    | _ => none
  | .slice t x lo hi mx => match P.underlying t, ev e x, lo.map (ev e), hi.map (ev e), mx with
    | some .string, .string s, some (.int _ l), none, none => some (.string (s.extract l.toNat s.size), [0 ≤ l ∧ l ≤ s.size], ls)
    | some .string, .string s, none, some (.int _ h), none => some (.string (s.extract 0 h.toNat), [0 ≤ h ∧ h ≤ s.size], ls)
    | some .string, .string s, some (.int _ l), some (.int _ h), none => some (.string (s.extract l.toNat h.toNat), [0 ≤ l ∧ l ≤ h ∧ h ≤ s.size], ls)
    | some (.slice el), .slice a _ c, none, some (.int _ h), none => match P.info? el with
      | some _ => some (.slice a h.toNat c, [0 ≤ h ∧ h ≤ c], ls)
      | none => none
    | some (.slice el), .slice a n c, none, none, none => match P.info? el with
      | some _ => some (.slice a n c, [], ls)
      | none => none
    | some (.slice el), .slice a n c, some (.int _ l), none, none => match P.info? el with
      | some inf => some (.slice (slOff a c l.toNat inf.size) (n - l.toNat) (c - l.toNat), [0 ≤ l ∧ l ≤ n], ls)
      | none => none
    | some (.slice el), .slice a _ c, some (.int _ l), some (.int _ h), none => match P.info? el with
      | some inf => some (.slice (slOff a c l.toNat inf.size) (h.toNat - l.toNat) (c - l.toNat), [0 ≤ l ∧ l ≤ h ∧ h ≤ c], ls)
      | none => none
    | _, _, _, _, _ => none
  | .build t parts => match P.built t (parts.map fun (i, x) => (i, ev e x)).toList with
    | some cs => some (.agg cs, [], ls)
    | none => none
  | .load t x => match ev e x, ls with
    | .pointer (some a), v :: ls => some (v, [Ld P w t a v], ls)
    | _, _ => none
  | .lookup t m k ok => match ls with
    | v :: ls => some (v, [Lk P w t (ev e m) (ev e k) ok v], ls)
    | [] => none
  | .call c => match c.callee with
    | .builtin b => builtinV P w e ls b c.args c.argTypes
    | _ => none
  | _ => none


theorem Addr.add_zero' (a : Addr) : a.add 0 = a := by simp [Addr.add]
theorem map_add_zero (a : Option Addr) : a.map (·.add 0) = a := by cases a <;> simp [Addr.add]

set_option maxHeartbeats 1600000 in
theorem run_pureOp0 {P : Program} {w : World} {H : Hints} {e : Env} {ls ls' : List Value} {o : Oper} {v : Value} {vc : List Prop}
    (h : pureOp0 P w H e ls o = some (v, vc, ls')) (hv : All vc) : (execOp (ev e) o).run P w = .ok (.value v) w := by
  obtain ⟨dst, op, type, pos, after, guard⟩ := o
  generalize hwr : wrapsAt H dst = wr
  cases op <;> simp only [pureOp0, hwr] at h <;> clear hwr <;> try (simp at h; done)
  case move x => simp at h; obtain ⟨rfl, rfl, rfl⟩ := h; simp [execOp]
  case assign x => simp at h; obtain ⟨rfl, rfl, rfl⟩ := h; simp [execOp]
  case pick c a b =>
    split at h
    · split at h
      · rename_i c hc
        simp at h; obtain ⟨rfl, rfl, rfl⟩ := h
        cases c <;> simp [execOp, hc, asBool]
      · simp at h
    split at h
    · rename_i c x y hc ha hb
      simp at h; obtain ⟨rfl, rfl, rfl⟩ := h
      cases c <;> simp [execOp, hc, ha, hb, asBool]
    · rename_i c k x k' y hc ha hb
      split at h
      · rename_i hk; subst hk
        simp at h; obtain ⟨rfl, rfl, rfl⟩ := h
        cases c <;> simp [execOp, hc, ha, hb, asBool]
      · simp at h
    · rename_i c x y hc ha hb
      simp at h; obtain ⟨rfl, rfl, rfl⟩ := h
      cases c <;> simp [execOp, hc, ha, hb, asBool]
    · simp at h
  case nilCheck x =>
    split at h
    · rename_i a ha
      simp at h; obtain ⟨rfl, rfl, rfl⟩ := h
      simp [execOp, ha]
    · rename_i a b c ha
      simp at h; obtain ⟨rfl, rfl, rfl⟩ := h
      simp [execOp, ha]
    · simp at h
  case binOp op t x y ty =>
    split at h
    · rename_i v vc hb
      simp at h; obtain ⟨rfl, rfl, rfl⟩ := h
      have := run_binV (P := P) (w := w) hb hv
      simp only [execOp]
      simp only [Sem.run_bind] at this ⊢
      rw [this]; rfl
    · simp at h
  case unOp op t x =>
    split at h
    · rename_i b hb
      simp at h; obtain ⟨rfl, rfl, rfl⟩ := h
      simp [execOp, hb, Op.unary]
    · rename_i k n hb
      cases wr <;> simp at h <;> obtain ⟨rfl, rfl, rfl⟩ := h
      · have hv' : Rng k (-n) := hv
        simp [execOp, hb, Op.unary, Op.intArith, wrap_of hv']
      · simp [execOp, hb, Op.unary, Op.intArith]
    · rename_i k n hb
      simp at h; obtain ⟨rfl, rfl, rfl⟩ := h
      simp [execOp, hb, Op.unary, Op.intBits]
    · simp at h
  case convert src dst x =>
    split at h
    · rename_i d k k' n hs hd hx
      cases wr <;> simp at h <;> obtain ⟨rfl, rfl, rfl⟩ := h
      · have hv' : Rng k n := hv
        cases d <;> simp [execOp, convert, run_underlying hs, run_underlying hd, hx, Conv.intToInt, wrap_of hv']
      · cases d <;> simp [execOp, convert, run_underlying hs, run_underlying hd, hx, Conv.intToInt]
    · rename_i s hs hd hx
      simp at h; obtain ⟨rfl, rfl, rfl⟩ := h
      simp [execOp, convert, run_underlying hs, run_underlying hd, hx]
    · rename_i el a n c hs hd hx
      split at h
      · rename_i v ls hel
        simp at h; obtain ⟨rfl, rfl, rfl⟩ := h
        have hv' : (Conv.bytesToString (.slice a n c)).run P w = .ok _ w := hv
        simp [execOp, convert, run_underlying hs, run_underlying hd, hx, run_underlying hel, hv']
      · simp at h
    · simp at h
  case makeInterface t x =>
    split at h
    · simp at h
    · rename_i d hn hu
      simp at h; obtain ⟨rfl, rfl, rfl⟩ := h
      simp only [execOp, Instr.makeInterface, Sem.run_bind, run_underlying hu, Result.andThen_ok]
      cases d <;> first | (simp; done) | (exact absurd rfl (hn _))
    · simp at h
  case makeFunc fn fi ca => simp at h; obtain ⟨rfl, rfl, rfl⟩ := h; simp [execOp, Instr.makeFunc]
  case fieldAddr s x f =>
    split at h
    · rename_i fs a hu ha
      split at h
      · rename_i fd hf
        split at h
        · rename_i i hi
          split at h
          · simp at h
          · rename_i h0
            simp at h; obtain ⟨rfl, rfl, rfl⟩ := h
            simp [execOp, Instr.fieldAt, run_underlying hu, ha, hf, Instr.sureAddr, fieldPlace, sizeOf, typeInfo, hi, h0]
        · simp at h
      · simp at h
    · simp at h
  case field t x f =>
    split at h
    · rename_i fs cs hu ha
      split at h
      · rename_i fd hf
        split at h
        · rename_i v hp
          simp at h; obtain ⟨rfl, rfl, rfl⟩ := h
          simp [execOp, Instr.field, run_underlying hu, ha, hf, asAgg, run_part hp]
        · simp at h
      · simp at h
    · simp at h
  case indexAddr t x ix =>
    split at h
    · rename_i el a n c k i hu hx hi
      split at h
      · rename_i inf hin
        simp at h; obtain ⟨rfl, rfl, rfl⟩ := h
        obtain ⟨h1, h2⟩ : InB i n ∧ a.isSome = true := hv
        obtain ⟨a, rfl⟩ := Option.isSome_iff_exists.1 h2
        simp [execOp, Instr.indexAt, run_underlying hu, hx, hi, asIntOf, sizeOf, typeInfo, hin, h1.1, h1.2, adr]
      · simp at h
    · rename_i n el a k i hu hx hi
      split at h
      · rename_i inf hin
        simp at h; obtain ⟨rfl, rfl, rfl⟩ := h
        have h1 : InB i n := hv
        simp [execOp, Instr.indexAt, run_underlying hu, hx, hi, asIntOf, sizeOf, typeInfo, hin, h1.1, h1.2, Instr.sureAddr]
      · simp at h
    · simp at h
  case index t x ix =>
    split at h
    · rename_i s k i hu hx hi
      simp at h; obtain ⟨rfl, rfl, rfl⟩ := h
      have h1 : InB i s.size := hv
      have h2 : 0 ≤ i ∧ i < s.size := h1
      simp only [execOp, Sem.run_bind, hx, hi, run_index_string w t s k i hu, dif_pos h2, Result.andThen_ok]
      have : byteAt s i = (s[i.toNat]'(by omega)).toNat := by
        unfold byteAt
        have hl : i.toNat < s.data.toList.length := by
          have : s.data.toList.length = s.size := by cases s; rfl
          omega
        rw [List.getElem?_eq_getElem hl]
        rfl
      rw [this]; rfl
    · rename_i n el cs k i hu hx hi
      split at h
      · rename_i inf v ls hin
        simp at h; obtain ⟨rfl, rfl, rfl⟩ := h
        obtain ⟨h1, h2⟩ : InB i n ∧ partV P el cs (i.toNat * inf.size) = some v := hv
        simp [execOp, Instr.index, run_underlying hu, hx, hi, asIntOf, sizeOf, typeInfo, hin, h1.1, h1.2, run_part h2]
      · simp at h
    · simp at h
  case extract x i =>
    split at h
    · rename_i vs hx
      split at h
      · rename_i v hv'
        simp at h; obtain ⟨rfl, rfl, rfl⟩ := h
        simp [execOp, Instr.extract, hx, hv']
      · simp at h
    · simp at h
  case slice t x lo hi mx =>
    have hel : ∀ el, P.underlying t = some (.slice el) → P.elem t = el := fun el hu => by simp [Program.elem, hu]
    have hsz : ∀ el inf, P.info? el = some inf → ∀ w, (sizeOf el).run P w = .ok inf.size w := fun el inf hi w => by simp [sizeOf, typeInfo, hi]
    split at h
    · rename_i s k l hu hx hl hh
      simp at h; obtain ⟨rfl, rfl, rfl⟩ := h
      have hv' : 0 ≤ l ∧ l ≤ s.size := hv
      simp [execOp, run_sliceAt_string, hu, hx, hl, hh, run_slice_string_l, hv'.1, hv'.2]
    · rename_i s k h' hu hx hl hh
      simp at h; obtain ⟨rfl, rfl, rfl⟩ := h
      have hv' : 0 ≤ h' ∧ h' ≤ s.size := hv
      simp [execOp, run_sliceAt_string, hu, hx, hl, hh, run_slice_string_h, hv'.1, hv'.2]
    · rename_i s k l k' h' hu hx hl hh
      simp at h; obtain ⟨rfl, rfl, rfl⟩ := h
      have hv' : 0 ≤ l ∧ l ≤ h' ∧ h' ≤ s.size := hv
      have eh : (h'.toNat : Int) = h' := Int.toNat_of_nonneg (by omega)
      have : (Instr.slice t (.string s) (some (.int k l)) (some (.int k' h')) none).run P w = .ok (.string (s.extract l.toNat h'.toNat)) w := by
        have h0 : 0 ≤ h' := by omega
        simp [Instr.slice, run_underlying hu, Instr.sliceBounds, run_sliceBound, *]
      simp [execOp, run_sliceAt_string, hu, hx, hl, hh, this]
    · rename_i el a n c k h' hu hx hl hh
      split at h
      · rename_i inf hi
        simp at h; obtain ⟨rfl, rfl, rfl⟩ := h
        have hv' : 0 ≤ h' ∧ h' ≤ c := hv
        have := run_slice_h (P := P) w t a n c (by rw [hel el hu]; exact hu) k h' hv'.1 hv'.2
        simp [execOp, run_sliceAt_slice, hel el hu, hu, hx, hl, hh, this, hsz el inf hi, sliced, Addr.add_zero']
      · simp at h
    · rename_i el a n c hu hx hl hh
      split at h
      · rename_i inf hi
        simp at h; obtain ⟨rfl, rfl, rfl⟩ := h
        have := run_slice_all (P := P) w t a n c (by rw [hel el hu]; exact hu)
        simp [execOp, run_sliceAt_slice, hel el hu, hu, hx, hl, hh, this, hsz el inf hi, sliced, Addr.add_zero']
      · simp at h
    · rename_i el a n c k l hu hx hl hh
      split at h
      · rename_i inf hi
        simp at h; obtain ⟨rfl, rfl, rfl⟩ := h
        have hv' : 0 ≤ l ∧ l ≤ n := hv
        have := run_slice_l (P := P) w t a n c (by rw [hel el hu]; exact hu) k l hv'.1 hv'.2
        simp [execOp, run_sliceAt_slice, hel el hu, hu, hx, hl, hh, this, hsz el inf hi, sliced, slOff]
      · simp at h
    · rename_i el a n c k l k' h' hu hx hl hh
      split at h
      · rename_i inf hi
        simp at h; obtain ⟨rfl, rfl, rfl⟩ := h
        have hv' : 0 ≤ l ∧ l ≤ h' ∧ h' ≤ c := hv
        have := run_slice_lh (P := P) w t a n c (by rw [hel el hu]; exact hu) k k' l h' hv'.1 hv'.2.1 hv'.2.2
        simp [execOp, run_sliceAt_slice, hel el hu, hu, hx, hl, hh, this, hsz el inf hi, sliced, slOff]
      · simp at h
    · simp at h
  case build t parts =>
    split at h
    · rename_i cs hb
      simp at h; obtain ⟨rfl, rfl, rfl⟩ := h
      simp [execOp, run_build w t _ cs hb]
    · simp at h
  case load t x =>
    split at h
    · rename_i a v ls ha
      simp at h; obtain ⟨rfl, rfl, rfl⟩ := h
      have hv' : (loadVar t a).run P w = .ok v w := hv
      simp [execOp, Instr.loadAt, Instr.sureAddr, ha, hv']
    · simp at h
  case lookup t m k ok =>
    split at h
    · simp at h; obtain ⟨rfl, rfl, rfl⟩ := h
      have hv' : (Instr.lookup t (ev e m) (ev e k) ok).run P w = .ok _ w := hv
      simp [execOp, hv']
    · simp at h
  case call c =>
    obtain ⟨callee, args, ts⟩ := c
    cases callee <;> try (simp at h; done)
    rename_i b
    simp only at h
    cases b <;> simp only [builtinV] at h <;> try (simp at h; done)
    case len =>
      split at h
      · rename_i x t hx ht
        have he : ∀ y, ev e x = y → (args.map (ev e))[0]? = some y := fun y hy => by simp [hx, hy]
        split at h
        · rename_i s hu hs
          simp at h; obtain ⟨rfl, rfl, rfl⟩ := h
          simp [execOp, resolve, invoke, builtin, Builtin.len_, ht, hx, hs, run_underlying hu, goInt]
        · rename_i el a n c hu hs
          simp at h; obtain ⟨rfl, rfl, rfl⟩ := h
          simp [execOp, resolve, invoke, builtin, Builtin.len_, ht, hx, hs, run_underlying hu, goInt]
        · rename_i n el hu
          simp at h; obtain ⟨rfl, rfl, rfl⟩ := h
          simp [execOp, resolve, invoke, builtin, Builtin.len_, ht, hx, run_underlying hu, goInt]
        · rename_i k el m hu hs
          split at h
          · rename_i v ls
            simp at h; obtain ⟨rfl, rfl, rfl⟩ := h
            obtain ⟨n, rfl, ⟨rfl, rfl⟩ | ⟨r, es, c, rfl, hw, rfl⟩⟩ := hv
            · simp [execOp, resolve, invoke, builtin, Builtin.len_, ht, hx, hs, run_underlying hu, goInt]
            · have hg : (getObj r).run P w = .ok (.map es c) w := by simp [getObj, Sem.run, hw]
              simp [execOp, resolve, invoke, builtin, Builtin.len_, ht, hx, hs, run_underlying hu, goInt, hg]
          · simp at h
        · simp at h
      · simp at h
    case cap =>
      split at h
      · rename_i x t hx ht
        split at h
        · rename_i el a n c hu hs
          simp at h; obtain ⟨rfl, rfl, rfl⟩ := h
          simp [execOp, resolve, invoke, builtin, Builtin.cap_, ht, hx, hs, run_underlying hu, goInt]
        · simp at h
      · simp at h
    case max =>
      split at h
      · rename_i k x k' y hx
        simp at h; obtain ⟨rfl, rfl, rfl⟩ := h
        have hm : max x y = if y > x then y else x := by omega
        simp [execOp, resolve, invoke, builtin, Builtin.max_, hx, Builtin.max2, hm]
      · simp at h
    case min =>
      split at h
      · rename_i k x k' y hx
        simp at h; obtain ⟨rfl, rfl, rfl⟩ := h
        have hm : min x y = if y < x then y else x := by omega
        simp [execOp, resolve, invoke, builtin, Builtin.min_, hx, Builtin.min2, hm]
      · simp at h

def subsAt (H : Hints) : Option Tmp → Bool
  | some d => H.subs.any (Nat.beq d)
  | none => false
/-- An operation that leaves the world alone; where a hint says so, its value is told in other words. -/
def pureOp (P : Program) (w : World) (H : Hints) (e : Env) (ls : List Value) (o : Oper) : Option (Value × List Prop × List Value) :=
  match pureOp0 P w H e ls o with
  | some (v, vc, ls') => if subsAt H o.dst then (match ls' with | u :: ls'' => some (u, vc ++ [v = u], ls'') | [] => none) else some (v, vc, ls')
  | none => none
theorem run_pureOp {P : Program} {w : World} {H : Hints} {e : Env} {ls ls' : List Value} {o : Oper} {v : Value} {vc : List Prop}
    (h : pureOp P w H e ls o = some (v, vc, ls')) (hv : All vc) : (execOp (ev e) o).run P w = .ok (.value v) w := by
  unfold pureOp at h
  split at h
  · rename_i v0 vc0 ls0 h0
    split at h
    · split at h
      · simp at h
        obtain ⟨rfl, rfl, rfl⟩ := h
        have := All.append hv
        have he := this.2
        have hr := run_pureOp0 h0 this.1
        rw [← he]
        exact hr
      · simp at h
    · simp at h
      obtain ⟨rfl, rfl, rfl⟩ := h
      exact run_pureOp0 h0 hv
  · simp at h

end Go.Proofs.YtbpedjefoajegaaDoor.K
