/- The walks of WLinearRight: what each function computes. -/
import Derived.Test.YthdkbbpiaeaojaaProg
import Derived.Test.YthdkbbpiaeaojaaCoreO
import Derived.Test.YthdkbbpiaeaojaaLinH
import Derived.Test.YthdkbbpiaeaojaaOpen
namespace Go.Proofs.Ythdkbbpiaeaojaa.K
open Go Go.Proofs Go.RowKit
set_option linter.unusedVariables false
set_option linter.unusedSimpArgs false
set_option maxRecDepth 20000
set_option maxHeartbeats 4000000

theorem LinearRight {okp : Gsherdlaw20_Turn → Prop} (BN : Nat) (hBN : BN ≤ 17592186043904) (w : World) (s1 : SlH) (l1 : List Gsherdlaw20_Turn) (o1 : SlD w (α := Gsherdlaw20_Turn) Gsherdlaw20_Turn.cells okp BN s1 l1) :
    Calls Try.prog 7 #[.slice s1.a s1.n s1.c] w (fun x w' => x = .returned (.bool true) ∧ Fram Non w w') := by
  have hn1 := o1.len
  have hc1 := o1.cap
  have hd1 := o1.bnd
  refine calls_of Try.func7 rfl 28 rfl (by simp) ?_
  have hp0 := Hp.init w
  have he0 : List.map (env0 [.slice s1.a s1.n s1.c]) [0] = [.slice s1.a s1.n s1.c] := by kernel_rfl
  obtain ⟨b0, he0⟩ := toMk he0
  rw [he0]
  clear he0
  refine WP.seq ?_
  refine WP.pure {} [] [0] [.slice s1.a s1.n s1.c] .nil (by kernel_rfl) (fun b1 => ?_)
  refine thn_n ?_
  refine WP.seq ?_
  refine WP.region _ rfl (by kernel_rfl) ?_
  refine OPS.batch 1 {} [] [7] [.slice s1.a s1.n s1.c] .nil (by kernel_rfl) (fun b2 => ?_)
  refine OPS.cons (opStep.call (some 8) [.slice s1.a s1.n s1.c, .int .i64 24] (by kernel_rfl) (law20_lived _ s1 l1 (o1.rd.at hp0) hn1 (by omega)) ?_)
  rintro _ w5 ⟨ao8, no9, co10, cl11, vs12, F13, rfl, k14, h15, h16, h17, hp6⟩
  refine ⟨_, rfl, ?_⟩
  have hp7 := hp0.madeL hp6
  simp only [List.cons_append, List.nil_append] at hp7
  have h18 := own_flat (sz := 11) (fun _ => rfl) (by decide) hp7.get0
  have := h17.1
  refine OPS.batch 1 {} [] [3] [.slice ao8 no9 co10] .nil (by kernel_rfl) (fun b19 => ?_)
  refine OPS.nil ?_
  refine thn_n ?_
  refine WP.seq ?_
  refine WP.region _ rfl (by kernel_rfl) ?_
  refine OPS.batch 1 {} [] [3, 10] [.slice ao8 no9 co10, .slice ao8 no9 co10] .nil (by kernel_rfl) (fun b20 => ?_)
  refine OPS.cons (opStep.call (some 11) [.slice ao8 no9 co10] (by kernel_rfl) (lin_OneN cl11 no9 h18 ao8 co10 _ (SlR.own hp7.get0) (vl_vb hp7.get1) (by omega)) ?_)
  rintro _ w23 ⟨xs28, ok29, e30, ao31, no32, co33, rfl, hx25, hn26⟩
  have hdhz27 := liv_one h17 h15 (fun i hi => vl_val hp7.get1 (by rw [h17.1]; exact hi)) hx25
  obtain ⟨rfl, rfl, hz27⟩ := hdhz27
  have hmhz27 := pathA_len hz27 List.nodup_nil (by simp)
  rw [List.length_nil, Nat.zero_add] at hmhz27
  refine ⟨_, rfl, ?_⟩
  have hp24 := hp7.made hn26
  have hehz27 : PathA (valAt w23) cl11 [] xs28 := path_keep (fun i hi => vl_val hp7.get1 hi) (fun i hi => vl_val hp24.get2 hi) hz27
  have hk34 := own_flat (sz := 1) (fun _ => rfl) (by decide) hp24.get0
  refine OPS.batch 7 {} [] [3, 4, 5, 6] [.slice ao8 no9 co10, .slice ao31 no32 co33, .bool true, .int .i64 0] .nil (by kernel_rfl) (fun b35 => ?_)
  refine OPS.nil ?_
  refine thn_n ?_
  refine WP.seq ?_
  refine WP.region _ rfl (by kernel_rfl) ?_
  refine OPS.batch 8 { wraps := [19] } [] [20, 21, 22] [.bool true, .slice ao8 no9 co10, .slice ao31 no32 co33] .nil (by kernel_rfl) (fun b36 => ?_)
  refine OPS.want (by kernel_rfl) ?_
  refine OPS.cons (opStep.call (some 23) [.slice ao8 no9 co10, .slice ao31 no32 co33] (by kernel_rfl) (expl_N cl11 no9 h18 ao8 co10 xs28 ao31 no32 co33 _ (SlR.own hp24.get1) (vl_vb hp24.get2) (by omega) (SlR.own hp24.get0) hk34 (by omega)) ?_)
  rintro _ w39 ⟨f40, rfl, hb41, hf42⟩
  obtain rfl : f40 = true := Bp.tt hb41 (path_expl hehz27)
  refine ⟨_, rfl, ?_⟩
  have hp43 := hp24.step hf42
  refine OPS.batch 2 { wraps := [24] } [] [25] [.bool true] .nil (by kernel_rfl) (fun b44 => ?_)
  refine OPS.want (by kernel_rfl) ?_
  refine OPS.cons (opStep.call (some 26) [] (by kernel_rfl) (law20_taken _) ?_)
  rintro _ w47 ⟨rfl, hf48⟩
  refine ⟨_, rfl, ?_⟩
  have hp49 := hp43.step hf48
  refine OPS.batch 2 { wraps := [27] } [] [2] [.bool true] .nil (by kernel_rfl) (fun b50 => ?_)
  refine OPS.nil ?_
  refine thn_n ?_
  refine WP.ret ?_
  refine bodyQ.of _ rfl [.bool true] ⟨rfl, trivial⟩ ?_
  exact ⟨rfl, hp49.fr⟩

end Go.Proofs.Ythdkbbpiaeaojaa.K
