/- What the interpreter of code computes of these functions, part 2; no condition. -/
import Derived.Test.YtcoiboghdmmdcacProg
import Derived.KernelRfl
import Derived.Test.YtcoiboghdmmdcacPx25
import Derived.Test.YtcoiboghdmmdcacFnsD
set_option linter.unusedVariables false
set_option linter.unusedSimpArgs false
namespace Go.Proofs.YtcoiboghdmmdcacFn
open Go Go.RowKit Go.Proofs.YtcoiboghdmmdcacPx
set_option maxHeartbeats 0 in
set_option maxRecDepth 5000000 in
def tendrillaw07_ArenaThree_P16v0 (k : Nat) (vs : List SV) (bs : List Blk) : Option (Option (Bool)) := match vs, bs with
  | [.val (.one (.ptr 0 0)), .val (.agg [(.sl .int p0), (.sl .int p1), (.sl .int p2), (.sl .int p3), (.sl .int p4), (.sl .int p5), (.sl .int p6), (.sl .int p7), (.sl .int p8), (.sl .int p9), (.sl .int p10), (.sl .int p11)]), .val (.one (.int .i64 p12))], [.box [(.sl .int p13), (.sl .int p14), (.sl .int p15), (.sl .int p16), (.sl .int p17), (.sl .int p18), (.sl .int p19), (.sl .int p20), (.sl .int p21), (.sl .int p22), (.sl .int p23), (.sl .int p24), (.sl .int p25), (.sl .int p26), (.int .i64 p27), (.sl .int p28)]] => some (tendrillaw07_ArenaThree_L16 k p0 p1 p2 p3 p4 p5 p6 p7 p8 p9 p10 p11 p12 p13 p14 p15 p16 p17 p18 p19 p20 p21 p22 p23 p24 p25 p26 p27 p28)
  | _, _ => none
set_option maxHeartbeats 0 in
set_option maxRecDepth 5000000 in
def tendrillaw07_ArenaThree_P22v0 (k : Nat) (vs : List SV) (bs : List Blk) : Option (Option (Bool)) := match vs, bs with
  | [.val (.one (.ptr 0 0)), .val (.one (.ptr 1 0)), .val (.agg [(.sl .int p0), (.sl .int p1), (.sl .int p2), (.sl .int p3), (.sl .int p4), (.sl .int p5), (.sl .int p6), (.sl .int p7), (.sl .int p8), (.sl .int p9), (.sl .int p10), (.sl .int p11)]), .val (.one (.int .i64 p12)), .val (.one (.sl .int p13)), .val (.one (.int .i64 p14)), .val (.one (.int .i64 p15))], [.box [(.sl .int p16), (.sl .int p17), (.sl .int p18), (.sl .int p19), (.sl .int p20), (.sl .int p21), (.sl .int p22), (.sl .int p23), (.sl .int p24), (.sl .int p25), (.sl .int p26), (.sl .int p27), (.sl .int p28), (.sl .int p29), (.int .i64 p30), (.sl .int p31)], .box [(.sl .int p32), (.sl .int p33), (.sl .int p34), (.sl .int p35)]] => some (tendrillaw07_ArenaThree_L22 k p0 p1 p2 p3 p4 p5 p6 p7 p8 p9 p10 p11 p12 p13 p14 p15 p16 p17 p18 p19 p20 p21 p22 p23 p24 p25 p26 p27 p28 p29 p30 p31 p32 p33 p34 p35)
  | _, _ => none
set_option maxHeartbeats 0 in
set_option maxRecDepth 5000000 in
def tendrillaw07_ArenaThree_P38v0 (k : Nat) (vs : List SV) (bs : List Blk) : Option (Option (Bool)) := match vs, bs with
  | [.val (.one (.ptr 0 0)), .val (.one (.ptr 1 0)), .val (.one (.int .i64 p0))], [.box [(.sl .int p1), (.sl .int p2), (.sl .int p3), (.sl .int p4), (.sl .int p5), (.sl .int p6), (.sl .int p7), (.sl .int p8), (.sl .int p9), (.sl .int p10), (.sl .int p11), (.sl .int p12), (.sl .int p13), (.sl .int p14), (.int .i64 p15), (.sl .int p16)], .box [(.sl .int p17), (.sl .int p18), (.sl .int p19), (.sl .int p20), (.sl .int p21), (.sl .int p22), (.sl .int p23), (.sl .int p24), (.sl .int p25), (.sl .int p26), (.sl .int p27), (.sl .int p28), (.sl .int p29), (.sl .int p30), (.int .i64 p31), (.sl .int p32)]] => some (tendrillaw07_ArenaThree_L38 k p0 p1 p2 p3 p4 p5 p6 p7 p8 p9 p10 p11 p12 p13 p14 p15 p16 p17 p18 p19 p20 p21 p22 p23 p24 p25 p26 p27 p28 p29 p30 p31 p32)
  | _, _ => none
set_option maxHeartbeats 0 in
set_option maxRecDepth 5000000 in
def tendrillaw07_ArenaThree_P52v0 (k : Nat) (vs : List SV) (bs : List Blk) : Option (Option (Bool)) := match vs, bs with
  | [.val (.one (.ptr 0 0)), .val (.agg [(.sl .int p0), (.sl .int p1), (.sl .int p2), (.sl .int p3), (.sl .int p4), (.sl .int p5), (.sl .int p6), (.sl .int p7), (.sl .int p8), (.sl .int p9), (.sl .int p10), (.sl .int p11)]), .val (.one (.int .i64 p12))], [.box [(.sl .int p13), (.sl .int p14), (.sl .int p15), (.sl .int p16), (.sl .int p17), (.sl .int p18), (.sl .int p19), (.sl .int p20), (.sl .int p21), (.sl .int p22), (.sl .int p23), (.sl .int p24), (.sl .int p25), (.sl .int p26), (.int .i64 p27), (.sl .int p28)]] => some (tendrillaw07_ArenaThree_L52 k p0 p1 p2 p3 p4 p5 p6 p7 p8 p9 p10 p11 p12 p13 p14 p15 p16 p17 p18 p19 p20 p21 p22 p23 p24 p25 p26 p27 p28)
  | _, _ => none
def tendrillaw07_ArenaThree_P16 (k : Nat) (vs : List SV) (bs : List Blk) : Option (Bool) := match tendrillaw07_ArenaThree_P16v0 k vs bs with | some r => r | none => none
def tendrillaw07_ArenaThree_P22 (k : Nat) (vs : List SV) (bs : List Blk) : Option (Bool) := match tendrillaw07_ArenaThree_P22v0 k vs bs with | some r => r | none => none
def tendrillaw07_ArenaThree_P38 (k : Nat) (vs : List SV) (bs : List Blk) : Option (Bool) := match tendrillaw07_ArenaThree_P38v0 k vs bs with | some r => r | none => none
def tendrillaw07_ArenaThree_P52 (k : Nat) (vs : List SV) (bs : List Blk) : Option (Bool) := match tendrillaw07_ArenaThree_P52v0 k vs bs with | some r => r | none => none
def tendrillaw07_ArenaThree_Λ (k L : Nat) (vs : List SV) (bs : List Blk) : Option (Bool) := match Nat.beq L 16 with | true => tendrillaw07_ArenaThree_P16 k vs bs | false => match Nat.beq L 22 with | true => tendrillaw07_ArenaThree_P22 k vs bs | false => match Nat.beq L 38 with | true => tendrillaw07_ArenaThree_P38 k vs bs | false => match Nat.beq L 52 with | true => tendrillaw07_ArenaThree_P52 k vs bs | false => none
noncomputable def tendrillaw07_ArenaThree_C : List (Cut (Tup [⟨false, .bool⟩])) := cuts Try.prog (lkΓ [(9, tendrillaw07_live_S), (10, tendrilref07_Few_S), (14, arena_Check_S), (24, arena_Turn_S), (25, pool_Count_S), (flagK, flagS)]) Try.f6.ntmps [(52, [7, 85, 86]), (38, [1, 7, 73]), (22, [1, 4, 41, 42, 46, 47, 48]), (16, [1, 41, 42])] (bodyOf Try.f6) (κ0 Try.prog Try.f6 false [⟨false, .bool⟩])
set_option maxRecDepth 5000000 in
theorem tendrillaw07_ArenaThree_c16 (k : Nat) (p0 : List Int) (p1 : List Int) (p2 : List Int) (p3 : List Int) (p4 : List Int) (p5 : List Int) (p6 : List Int) (p7 : List Int) (p8 : List Int) (p9 : List Int) (p10 : List Int) (p11 : List Int) (p12 : Int) (p13 : List Int) (p14 : List Int) (p15 : List Int) (p16 : List Int) (p17 : List Int) (p18 : List Int) (p19 : List Int) (p20 : List Int) (p21 : List Int) (p22 : List Int) (p23 : List Int) (p24 : List Int) (p25 : List Int) (p26 : List Int) (p27 : Int) (p28 : List Int) : ((nthC tendrillaw07_ArenaThree_C 0).g (mkSt [1, 41, 42] [.val (.one (.ptr 0 0)), .val (.agg [(.sl .int p0), (.sl .int p1), (.sl .int p2), (.sl .int p3), (.sl .int p4), (.sl .int p5), (.sl .int p6), (.sl .int p7), (.sl .int p8), (.sl .int p9), (.sl .int p10), (.sl .int p11)]), .val (.one (.int .i64 p12))] [.box [(.sl .int p13), (.sl .int p14), (.sl .int p15), (.sl .int p16), (.sl .int p17), (.sl .int p18), (.sl .int p19), (.sl .int p20), (.sl .int p21), (.sl .int p22), (.sl .int p23), (.sl .int p24), (.sl .int p25), (.sl .int p26), (.int .i64 p27), (.sl .int p28)]])).run (tendrillaw07_ArenaThree_Λ k) = tendrillaw07_ArenaThree_L16 (k + 1) p0 p1 p2 p3 p4 p5 p6 p7 p8 p9 p10 p11 p12 p13 p14 p15 p16 p17 p18 p19 p20 p21 p22 p23 p24 p25 p26 p27 p28 := by kernel_rfl
set_option maxHeartbeats 0 in
set_option maxRecDepth 5000000 in
theorem tendrillaw07_ArenaThree_e16 (k : Nat) (vs : List SV) (bs : List Blk) (r : Bool) (h : tendrillaw07_ArenaThree_P16v0 (k + 1) vs bs = some (some r)) : ((nthC tendrillaw07_ArenaThree_C 0).g (mkSt [1, 41, 42] vs bs)).run (tendrillaw07_ArenaThree_Λ k) = some r := by
  unfold tendrillaw07_ArenaThree_P16v0 at h
  split at h
  · exact (tendrillaw07_ArenaThree_c16 k _ _ _ _ _ _ _ _ _ _ _ _ _ _ _ _ _ _ _ _ _ _ _ _ _ _ _ _ _).trans (Option.some.inj h)
  · cases h
set_option maxRecDepth 5000000 in
theorem tendrillaw07_ArenaThree_c22 (k : Nat) (p0 : List Int) (p1 : List Int) (p2 : List Int) (p3 : List Int) (p4 : List Int) (p5 : List Int) (p6 : List Int) (p7 : List Int) (p8 : List Int) (p9 : List Int) (p10 : List Int) (p11 : List Int) (p12 : Int) (p13 : List Int) (p14 : Int) (p15 : Int) (p16 : List Int) (p17 : List Int) (p18 : List Int) (p19 : List Int) (p20 : List Int) (p21 : List Int) (p22 : List Int) (p23 : List Int) (p24 : List Int) (p25 : List Int) (p26 : List Int) (p27 : List Int) (p28 : List Int) (p29 : List Int) (p30 : Int) (p31 : List Int) (p32 : List Int) (p33 : List Int) (p34 : List Int) (p35 : List Int) : ((nthC tendrillaw07_ArenaThree_C 1).g (mkSt [1, 4, 41, 42, 46, 47, 48] [.val (.one (.ptr 0 0)), .val (.one (.ptr 1 0)), .val (.agg [(.sl .int p0), (.sl .int p1), (.sl .int p2), (.sl .int p3), (.sl .int p4), (.sl .int p5), (.sl .int p6), (.sl .int p7), (.sl .int p8), (.sl .int p9), (.sl .int p10), (.sl .int p11)]), .val (.one (.int .i64 p12)), .val (.one (.sl .int p13)), .val (.one (.int .i64 p14)), .val (.one (.int .i64 p15))] [.box [(.sl .int p16), (.sl .int p17), (.sl .int p18), (.sl .int p19), (.sl .int p20), (.sl .int p21), (.sl .int p22), (.sl .int p23), (.sl .int p24), (.sl .int p25), (.sl .int p26), (.sl .int p27), (.sl .int p28), (.sl .int p29), (.int .i64 p30), (.sl .int p31)], .box [(.sl .int p32), (.sl .int p33), (.sl .int p34), (.sl .int p35)]])).run (tendrillaw07_ArenaThree_Λ k) = tendrillaw07_ArenaThree_L22 (k + 1) p0 p1 p2 p3 p4 p5 p6 p7 p8 p9 p10 p11 p12 p13 p14 p15 p16 p17 p18 p19 p20 p21 p22 p23 p24 p25 p26 p27 p28 p29 p30 p31 p32 p33 p34 p35 := by kernel_rfl
set_option maxHeartbeats 0 in
set_option maxRecDepth 5000000 in
theorem tendrillaw07_ArenaThree_e22 (k : Nat) (vs : List SV) (bs : List Blk) (r : Bool) (h : tendrillaw07_ArenaThree_P22v0 (k + 1) vs bs = some (some r)) : ((nthC tendrillaw07_ArenaThree_C 1).g (mkSt [1, 4, 41, 42, 46, 47, 48] vs bs)).run (tendrillaw07_ArenaThree_Λ k) = some r := by
  unfold tendrillaw07_ArenaThree_P22v0 at h
  split at h
  · exact (tendrillaw07_ArenaThree_c22 k _ _ _ _ _ _ _ _ _ _ _ _ _ _ _ _ _ _ _ _ _ _ _ _ _ _ _ _ _ _ _ _ _ _ _ _).trans (Option.some.inj h)
  · cases h
set_option maxRecDepth 5000000 in
theorem tendrillaw07_ArenaThree_c38 (k : Nat) (p0 : Int) (p1 : List Int) (p2 : List Int) (p3 : List Int) (p4 : List Int) (p5 : List Int) (p6 : List Int) (p7 : List Int) (p8 : List Int) (p9 : List Int) (p10 : List Int) (p11 : List Int) (p12 : List Int) (p13 : List Int) (p14 : List Int) (p15 : Int) (p16 : List Int) (p17 : List Int) (p18 : List Int) (p19 : List Int) (p20 : List Int) (p21 : List Int) (p22 : List Int) (p23 : List Int) (p24 : List Int) (p25 : List Int) (p26 : List Int) (p27 : List Int) (p28 : List Int) (p29 : List Int) (p30 : List Int) (p31 : Int) (p32 : List Int) : ((nthC tendrillaw07_ArenaThree_C 2).g (mkSt [1, 7, 73] [.val (.one (.ptr 0 0)), .val (.one (.ptr 1 0)), .val (.one (.int .i64 p0))] [.box [(.sl .int p1), (.sl .int p2), (.sl .int p3), (.sl .int p4), (.sl .int p5), (.sl .int p6), (.sl .int p7), (.sl .int p8), (.sl .int p9), (.sl .int p10), (.sl .int p11), (.sl .int p12), (.sl .int p13), (.sl .int p14), (.int .i64 p15), (.sl .int p16)], .box [(.sl .int p17), (.sl .int p18), (.sl .int p19), (.sl .int p20), (.sl .int p21), (.sl .int p22), (.sl .int p23), (.sl .int p24), (.sl .int p25), (.sl .int p26), (.sl .int p27), (.sl .int p28), (.sl .int p29), (.sl .int p30), (.int .i64 p31), (.sl .int p32)]])).run (tendrillaw07_ArenaThree_Λ k) = tendrillaw07_ArenaThree_L38 (k + 1) p0 p1 p2 p3 p4 p5 p6 p7 p8 p9 p10 p11 p12 p13 p14 p15 p16 p17 p18 p19 p20 p21 p22 p23 p24 p25 p26 p27 p28 p29 p30 p31 p32 := by kernel_rfl
set_option maxHeartbeats 0 in
set_option maxRecDepth 5000000 in
theorem tendrillaw07_ArenaThree_e38 (k : Nat) (vs : List SV) (bs : List Blk) (r : Bool) (h : tendrillaw07_ArenaThree_P38v0 (k + 1) vs bs = some (some r)) : ((nthC tendrillaw07_ArenaThree_C 2).g (mkSt [1, 7, 73] vs bs)).run (tendrillaw07_ArenaThree_Λ k) = some r := by
  unfold tendrillaw07_ArenaThree_P38v0 at h
  split at h
  · exact (tendrillaw07_ArenaThree_c38 k _ _ _ _ _ _ _ _ _ _ _ _ _ _ _ _ _ _ _ _ _ _ _ _ _ _ _ _ _ _ _ _ _).trans (Option.some.inj h)
  · cases h
set_option maxRecDepth 5000000 in
theorem tendrillaw07_ArenaThree_c52 (k : Nat) (p0 : List Int) (p1 : List Int) (p2 : List Int) (p3 : List Int) (p4 : List Int) (p5 : List Int) (p6 : List Int) (p7 : List Int) (p8 : List Int) (p9 : List Int) (p10 : List Int) (p11 : List Int) (p12 : Int) (p13 : List Int) (p14 : List Int) (p15 : List Int) (p16 : List Int) (p17 : List Int) (p18 : List Int) (p19 : List Int) (p20 : List Int) (p21 : List Int) (p22 : List Int) (p23 : List Int) (p24 : List Int) (p25 : List Int) (p26 : List Int) (p27 : Int) (p28 : List Int) : ((nthC tendrillaw07_ArenaThree_C 3).g (mkSt [7, 85, 86] [.val (.one (.ptr 0 0)), .val (.agg [(.sl .int p0), (.sl .int p1), (.sl .int p2), (.sl .int p3), (.sl .int p4), (.sl .int p5), (.sl .int p6), (.sl .int p7), (.sl .int p8), (.sl .int p9), (.sl .int p10), (.sl .int p11)]), .val (.one (.int .i64 p12))] [.box [(.sl .int p13), (.sl .int p14), (.sl .int p15), (.sl .int p16), (.sl .int p17), (.sl .int p18), (.sl .int p19), (.sl .int p20), (.sl .int p21), (.sl .int p22), (.sl .int p23), (.sl .int p24), (.sl .int p25), (.sl .int p26), (.int .i64 p27), (.sl .int p28)]])).run (tendrillaw07_ArenaThree_Λ k) = tendrillaw07_ArenaThree_L52 (k + 1) p0 p1 p2 p3 p4 p5 p6 p7 p8 p9 p10 p11 p12 p13 p14 p15 p16 p17 p18 p19 p20 p21 p22 p23 p24 p25 p26 p27 p28 := by kernel_rfl
set_option maxHeartbeats 0 in
set_option maxRecDepth 5000000 in
theorem tendrillaw07_ArenaThree_e52 (k : Nat) (vs : List SV) (bs : List Blk) (r : Bool) (h : tendrillaw07_ArenaThree_P52v0 (k + 1) vs bs = some (some r)) : ((nthC tendrillaw07_ArenaThree_C 3).g (mkSt [7, 85, 86] vs bs)).run (tendrillaw07_ArenaThree_Λ k) = some r := by
  unfold tendrillaw07_ArenaThree_P52v0 at h
  split at h
  · exact (tendrillaw07_ArenaThree_c52 k _ _ _ _ _ _ _ _ _ _ _ _ _ _ _ _ _ _ _ _ _ _ _ _ _ _ _ _ _).trans (Option.some.inj h)
  · cases h
theorem tendrillaw07_ArenaThree_d16 : CutOk tendrillaw07_ArenaThree_Λ (nthC tendrillaw07_ArenaThree_C 0) := by
  refine cutOk_of (L := 16) (live := [1, 41, 42]) (by kernel_rfl) (by kernel_rfl) fun k vs bs r h => ?_
  change tendrillaw07_ArenaThree_P16 (k + 1) vs bs = some r at h
  unfold tendrillaw07_ArenaThree_P16 at h
  split at h
  · rename_i q hq
    exact tendrillaw07_ArenaThree_e16 k vs bs r (hq.trans (congrArg some h))
  cases h
theorem tendrillaw07_ArenaThree_d22 : CutOk tendrillaw07_ArenaThree_Λ (nthC tendrillaw07_ArenaThree_C 1) := by
  refine cutOk_of (L := 22) (live := [1, 4, 41, 42, 46, 47, 48]) (by kernel_rfl) (by kernel_rfl) fun k vs bs r h => ?_
  change tendrillaw07_ArenaThree_P22 (k + 1) vs bs = some r at h
  unfold tendrillaw07_ArenaThree_P22 at h
  split at h
  · rename_i q hq
    exact tendrillaw07_ArenaThree_e22 k vs bs r (hq.trans (congrArg some h))
  cases h
theorem tendrillaw07_ArenaThree_d38 : CutOk tendrillaw07_ArenaThree_Λ (nthC tendrillaw07_ArenaThree_C 2) := by
  refine cutOk_of (L := 38) (live := [1, 7, 73]) (by kernel_rfl) (by kernel_rfl) fun k vs bs r h => ?_
  change tendrillaw07_ArenaThree_P38 (k + 1) vs bs = some r at h
  unfold tendrillaw07_ArenaThree_P38 at h
  split at h
  · rename_i q hq
    exact tendrillaw07_ArenaThree_e38 k vs bs r (hq.trans (congrArg some h))
  cases h
theorem tendrillaw07_ArenaThree_d52 : CutOk tendrillaw07_ArenaThree_Λ (nthC tendrillaw07_ArenaThree_C 3) := by
  refine cutOk_of (L := 52) (live := [7, 85, 86]) (by kernel_rfl) (by kernel_rfl) fun k vs bs r h => ?_
  change tendrillaw07_ArenaThree_P52 (k + 1) vs bs = some r at h
  unfold tendrillaw07_ArenaThree_P52 at h
  split at h
  · rename_i q hq
    exact tendrillaw07_ArenaThree_e52 k vs bs r (hq.trans (congrArg some h))
  cases h
theorem tendrillaw07_ArenaThree_cuts : ∀ p ∈ cuts Try.prog (lkΓ [(9, tendrillaw07_live_S), (10, tendrilref07_Few_S), (14, arena_Check_S), (24, arena_Turn_S), (25, pool_Count_S), (flagK, flagS)]) Try.f6.ntmps [(52, [7, 85, 86]), (38, [1, 7, 73]), (22, [1, 4, 41, 42, 46, 47, 48]), (16, [1, 41, 42])] (bodyOf Try.f6) (κ0 Try.prog Try.f6 false [⟨false, .bool⟩]), CutOk tendrillaw07_ArenaThree_Λ p := cutsOk (l := tendrillaw07_ArenaThree_C) (n := 4) (by kernel_rfl) fun
  | 0, _ => tendrillaw07_ArenaThree_d16
  | 1, _ => tendrillaw07_ArenaThree_d22
  | 2, _ => tendrillaw07_ArenaThree_d38
  | 3, _ => tendrillaw07_ArenaThree_d52
  | k + 4, h => absurd h (by omega)
set_option maxHeartbeats 0 in
set_option maxRecDepth 5000000 in
theorem tendrillaw07_ArenaThree_z16 (vs : List SV) (bs : List Blk) (q : Option (Bool)) (h : tendrillaw07_ArenaThree_P16v0 0 vs bs = some q) : q = none := by
  unfold tendrillaw07_ArenaThree_P16v0 at h; split at h
  · have h := Option.some.inj h; rw [← h]; first | rfl | (unfold tendrillaw07_ArenaThree_L16; rfl)
  · cases h
set_option maxHeartbeats 0 in
set_option maxRecDepth 5000000 in
theorem tendrillaw07_ArenaThree_z22 (vs : List SV) (bs : List Blk) (q : Option (Bool)) (h : tendrillaw07_ArenaThree_P22v0 0 vs bs = some q) : q = none := by
  unfold tendrillaw07_ArenaThree_P22v0 at h; split at h
  · have h := Option.some.inj h; rw [← h]; first | rfl | (unfold tendrillaw07_ArenaThree_L22; rfl)
  · cases h
set_option maxHeartbeats 0 in
set_option maxRecDepth 5000000 in
theorem tendrillaw07_ArenaThree_z38 (vs : List SV) (bs : List Blk) (q : Option (Bool)) (h : tendrillaw07_ArenaThree_P38v0 0 vs bs = some q) : q = none := by
  unfold tendrillaw07_ArenaThree_P38v0 at h; split at h
  · have h := Option.some.inj h; rw [← h]; first | rfl | (unfold tendrillaw07_ArenaThree_L38; rfl)
  · cases h
set_option maxHeartbeats 0 in
set_option maxRecDepth 5000000 in
theorem tendrillaw07_ArenaThree_z52 (vs : List SV) (bs : List Blk) (q : Option (Bool)) (h : tendrillaw07_ArenaThree_P52v0 0 vs bs = some q) : q = none := by
  unfold tendrillaw07_ArenaThree_P52v0 at h; split at h
  · have h := Option.some.inj h; rw [← h]; first | rfl | (unfold tendrillaw07_ArenaThree_L52; rfl)
  · cases h
theorem tendrillaw07_ArenaThree_Λ0 (L : Nat) (vs : List SV) (bs : List Blk) : tendrillaw07_ArenaThree_Λ 0 L vs bs = none := by
  unfold tendrillaw07_ArenaThree_Λ
  split
  · unfold tendrillaw07_ArenaThree_P16
    split
    · rename_i q hq; exact tendrillaw07_ArenaThree_z16 _ _ q hq
    rfl
  split
  · unfold tendrillaw07_ArenaThree_P22
    split
    · rename_i q hq; exact tendrillaw07_ArenaThree_z22 _ _ q hq
    rfl
  split
  · unfold tendrillaw07_ArenaThree_P38
    split
    · rename_i q hq; exact tendrillaw07_ArenaThree_z38 _ _ q hq
    rfl
  split
  · unfold tendrillaw07_ArenaThree_P52
    split
    · rename_i q hq; exact tendrillaw07_ArenaThree_z52 _ _ q hq
    rfl
  rfl
set_option maxRecDepth 5000000 in
theorem tendrillaw07_ArenaThree_run (K : Nat) (x : Tup [⟨true, (.pair (.sl .int) (.pair (.sl .int) (.pair (.pair (.pair (.sl .int) (.pair (.sl .int) (.pair (.sl .int) (.sl .int)))) (.pair (.pair (.sl .int) (.pair (.sl .int) (.pair (.sl .int) (.sl .int)))) (.pair (.sl .int) (.pair (.sl .int) (.pair (.sl .int) (.sl .int)))))) (.pair .int (.sl .int)))))⟩]) : (pxFn Try.prog (lkΓ [(9, tendrillaw07_live_S), (10, tendrilref07_Few_S), (14, arena_Check_S), (24, arena_Turn_S), (25, pool_Count_S), (flagK, flagS)]) [(52, [7, 85, 86]), (38, [1, 7, 73]), (22, [1, 4, 41, 42, 46, 47, 48]), (16, [1, 41, 42])] Try.f6 (bodyOf Try.f6) false [⟨false, .bool⟩] (encTup [⟨true, (.pair (.sl .int) (.pair (.sl .int) (.pair (.pair (.pair (.sl .int) (.pair (.sl .int) (.pair (.sl .int) (.sl .int)))) (.pair (.pair (.sl .int) (.pair (.sl .int) (.pair (.sl .int) (.sl .int)))) (.pair (.sl .int) (.pair (.sl .int) (.pair (.sl .int) (.sl .int)))))) (.pair .int (.sl .int)))))⟩] x)).run (tendrillaw07_ArenaThree_Λ K) = tendrillaw07_ArenaThree_K K x := by kernel_rfl
set_option maxRecDepth 5000000 in
theorem era_Turn_run (x : Tup [⟨true, (.pair .int (.sl .int))⟩]) : (pxFn Try.prog (lkΓ [(43, era_Check_S), (71, slices_Clone_S), (73000066, slices_ContainsFunc_era_Turn_1_S)]) [] Try.f53 (bodyOf Try.f53) true [⟨true, (.pair .int (.sl .int))⟩, ⟨false, .bool⟩] (encTup [⟨true, (.pair .int (.sl .int))⟩] x)).run (fun _ _ _ => none) = era_Turn x := by kernel_rfl
theorem era_Turn_cuts : ∀ p ∈ cuts Try.prog (lkΓ [(43, era_Check_S), (71, slices_Clone_S), (73000066, slices_ContainsFunc_era_Turn_1_S)]) Try.f53.ntmps [] (bodyOf Try.f53) (κ0 Try.prog Try.f53 true [⟨true, (.pair .int (.sl .int))⟩, ⟨false, .bool⟩]), CutOk (fun _ _ _ _ => none) p := cutsNil (by kernel_rfl)
set_option maxRecDepth 5000000 in
theorem tendrilref05_Few_run (x : Tup [⟨true, (.pair (.sl .int) (.pair (.sl .int) (.pair (.sl .int) (.sl .int))))⟩]) : (pxFn Try.prog (lkΓ []) [] Try.f33 (bodyOf Try.f33) false [⟨false, .bool⟩] (encTup [⟨true, (.pair (.sl .int) (.pair (.sl .int) (.pair (.sl .int) (.sl .int))))⟩] x)).run (fun _ _ _ => none) = tendrilref05_Few x := by kernel_rfl
theorem tendrilref05_Few_cuts : ∀ p ∈ cuts Try.prog (lkΓ []) Try.f33.ntmps [] (bodyOf Try.f33) (κ0 Try.prog Try.f33 false [⟨false, .bool⟩]), CutOk (fun _ _ _ _ => none) p := cutsNil (by kernel_rfl)
set_option maxRecDepth 5000000 in
theorem slices_Contains_run (x : Tup [⟨false, (.sl .bool)⟩, ⟨false, .bool⟩]) : (pxFn Try.prog (lkΓ [(77, slices_Index_S)]) [] Try.f64 (bodyOf Try.f64) false [⟨false, .bool⟩] (encTup [⟨false, (.sl .bool)⟩, ⟨false, .bool⟩] x)).run (fun _ _ _ => none) = slices_Contains x := by kernel_rfl
theorem slices_Contains_cuts : ∀ p ∈ cuts Try.prog (lkΓ [(77, slices_Index_S)]) Try.f64.ntmps [] (bodyOf Try.f64) (κ0 Try.prog Try.f64 false [⟨false, .bool⟩]), CutOk (fun _ _ _ _ => none) p := cutsNil (by kernel_rfl)
set_option maxRecDepth 5000000 in
theorem tag_Unpack_run (x : Tup [⟨false, .int⟩]) : (pxFn Try.prog (lkΓ []) [] Try.f31 (bodyOf Try.f31) false [⟨false, .int⟩, ⟨false, .int⟩, ⟨false, .int⟩] (encTup [⟨false, .int⟩] x)).run (fun _ _ _ => none) = tag_Unpack x := by kernel_rfl
theorem tag_Unpack_cuts : ∀ p ∈ cuts Try.prog (lkΓ []) Try.f31.ntmps [] (bodyOf Try.f31) (κ0 Try.prog Try.f31 false [⟨false, .int⟩, ⟨false, .int⟩, ⟨false, .int⟩]), CutOk (fun _ _ _ _ => none) p := cutsNil (by kernel_rfl)
end Go.Proofs.YtcoiboghdmmdcacFn
