/- What the interpreter of code computes of these functions, part 5; no condition. -/
import Derived.Test.YtcoiboghdmmdcacProg
import Derived.KernelRfl
import Derived.Test.YtcoiboghdmmdcacPx25
import Derived.Test.YtcoiboghdmmdcacFnsD
set_option linter.unusedVariables false
set_option linter.unusedSimpArgs false
namespace Go.Proofs.YtcoiboghdmmdcacFn
open Go Go.RowKit Go.Proofs.YtcoiboghdmmdcacPx
set_option maxHeartbeats 0 in
set_option maxRecDepth 5000000 in
def arena_Check_P6v0 (k : Nat) (vs : List SV) (bs : List Blk) : Option (Option (Int)) := match vs, bs with
  | [.val (.one (.ptr 0 0)), .val (.agg [(.sl .int p0), (.sl .int p1), (.sl .int p2), (.sl .int p3), (.sl .int p4), (.sl .int p5), (.sl .int p6), (.sl .int p7), (.sl .int p8), (.sl .int p9), (.sl .int p10), (.sl .int p11)]), .val (.one (.int .i64 p12))], [.box [(.sl .int p13), (.sl .int p14), (.sl .int p15), (.sl .int p16), (.sl .int p17), (.sl .int p18), (.sl .int p19), (.sl .int p20), (.sl .int p21), (.sl .int p22), (.sl .int p23), (.sl .int p24), (.sl .int p25), (.sl .int p26), (.int .i64 p27), (.sl .int p28)]] => some (arena_Check_L6 k p0 p1 p2 p3 p4 p5 p6 p7 p8 p9 p10 p11 p12 p13 p14 p15 p16 p17 p18 p19 p20 p21 p22 p23 p24 p25 p26 p27 p28)
  | _, _ => none
def arena_Check_P6 (k : Nat) (vs : List SV) (bs : List Blk) : Option (Int) := match arena_Check_P6v0 k vs bs with | some r => r | none => none
def arena_Check_Λ (k L : Nat) (vs : List SV) (bs : List Blk) : Option (Int) := match Nat.beq L 6 with | true => arena_Check_P6 k vs bs | false => none
noncomputable def arena_Check_C : List (Cut (Tup [⟨false, .int⟩])) := cuts Try.prog (lkΓ [(42, pool_Check_S), (43, era_Check_S)]) Try.f14.ntmps [(6, [1, 7, 8])] (bodyOf Try.f14) (κ0 Try.prog Try.f14 false [⟨false, .int⟩])
set_option maxRecDepth 5000000 in
theorem arena_Check_c6 (k : Nat) (p0 : List Int) (p1 : List Int) (p2 : List Int) (p3 : List Int) (p4 : List Int) (p5 : List Int) (p6 : List Int) (p7 : List Int) (p8 : List Int) (p9 : List Int) (p10 : List Int) (p11 : List Int) (p12 : Int) (p13 : List Int) (p14 : List Int) (p15 : List Int) (p16 : List Int) (p17 : List Int) (p18 : List Int) (p19 : List Int) (p20 : List Int) (p21 : List Int) (p22 : List Int) (p23 : List Int) (p24 : List Int) (p25 : List Int) (p26 : List Int) (p27 : Int) (p28 : List Int) : ((nthC arena_Check_C 0).g (mkSt [1, 7, 8] [.val (.one (.ptr 0 0)), .val (.agg [(.sl .int p0), (.sl .int p1), (.sl .int p2), (.sl .int p3), (.sl .int p4), (.sl .int p5), (.sl .int p6), (.sl .int p7), (.sl .int p8), (.sl .int p9), (.sl .int p10), (.sl .int p11)]), .val (.one (.int .i64 p12))] [.box [(.sl .int p13), (.sl .int p14), (.sl .int p15), (.sl .int p16), (.sl .int p17), (.sl .int p18), (.sl .int p19), (.sl .int p20), (.sl .int p21), (.sl .int p22), (.sl .int p23), (.sl .int p24), (.sl .int p25), (.sl .int p26), (.int .i64 p27), (.sl .int p28)]])).run (arena_Check_Λ k) = arena_Check_L6 (k + 1) p0 p1 p2 p3 p4 p5 p6 p7 p8 p9 p10 p11 p12 p13 p14 p15 p16 p17 p18 p19 p20 p21 p22 p23 p24 p25 p26 p27 p28 := by kernel_rfl
set_option maxHeartbeats 0 in
set_option maxRecDepth 5000000 in
theorem arena_Check_e6 (k : Nat) (vs : List SV) (bs : List Blk) (r : Int) (h : arena_Check_P6v0 (k + 1) vs bs = some (some r)) : ((nthC arena_Check_C 0).g (mkSt [1, 7, 8] vs bs)).run (arena_Check_Λ k) = some r := by
  unfold arena_Check_P6v0 at h
  split at h
  · exact (arena_Check_c6 k _ _ _ _ _ _ _ _ _ _ _ _ _ _ _ _ _ _ _ _ _ _ _ _ _ _ _ _ _).trans (Option.some.inj h)
  · cases h
theorem arena_Check_d6 : CutOk arena_Check_Λ (nthC arena_Check_C 0) := by
  refine cutOk_of (L := 6) (live := [1, 7, 8]) (by kernel_rfl) (by kernel_rfl) fun k vs bs r h => ?_
  change arena_Check_P6 (k + 1) vs bs = some r at h
  unfold arena_Check_P6 at h
  split at h
  · rename_i q hq
    exact arena_Check_e6 k vs bs r (hq.trans (congrArg some h))
  cases h
theorem arena_Check_cuts : ∀ p ∈ cuts Try.prog (lkΓ [(42, pool_Check_S), (43, era_Check_S)]) Try.f14.ntmps [(6, [1, 7, 8])] (bodyOf Try.f14) (κ0 Try.prog Try.f14 false [⟨false, .int⟩]), CutOk arena_Check_Λ p := cutsOk (l := arena_Check_C) (n := 1) (by kernel_rfl) fun
  | 0, _ => arena_Check_d6
  | k + 1, h => absurd h (by omega)
set_option maxHeartbeats 0 in
set_option maxRecDepth 5000000 in
theorem arena_Check_z6 (vs : List SV) (bs : List Blk) (q : Option (Int)) (h : arena_Check_P6v0 0 vs bs = some q) : q = none := by
  unfold arena_Check_P6v0 at h; split at h
  · have h := Option.some.inj h; rw [← h]; first | rfl | (unfold arena_Check_L6; rfl)
  · cases h
theorem arena_Check_Λ0 (L : Nat) (vs : List SV) (bs : List Blk) : arena_Check_Λ 0 L vs bs = none := by
  unfold arena_Check_Λ
  split
  · unfold arena_Check_P6
    split
    · rename_i q hq; exact arena_Check_z6 _ _ q hq
    rfl
  rfl
set_option maxRecDepth 5000000 in
theorem arena_Check_run (K : Nat) (x : Tup [⟨true, (.pair (.sl .int) (.pair (.sl .int) (.pair (.pair (.pair (.sl .int) (.pair (.sl .int) (.pair (.sl .int) (.sl .int)))) (.pair (.pair (.sl .int) (.pair (.sl .int) (.pair (.sl .int) (.sl .int)))) (.pair (.sl .int) (.pair (.sl .int) (.pair (.sl .int) (.sl .int)))))) (.pair .int (.sl .int)))))⟩]) : (pxFn Try.prog (lkΓ [(42, pool_Check_S), (43, era_Check_S)]) [(6, [1, 7, 8])] Try.f14 (bodyOf Try.f14) false [⟨false, .int⟩] (encTup [⟨true, (.pair (.sl .int) (.pair (.sl .int) (.pair (.pair (.pair (.sl .int) (.pair (.sl .int) (.pair (.sl .int) (.sl .int)))) (.pair (.pair (.sl .int) (.pair (.sl .int) (.pair (.sl .int) (.sl .int)))) (.pair (.sl .int) (.pair (.sl .int) (.pair (.sl .int) (.sl .int)))))) (.pair .int (.sl .int)))))⟩] x)).run (arena_Check_Λ K) = arena_Check_K K x := by kernel_rfl
set_option maxHeartbeats 0 in
set_option maxRecDepth 5000000 in
def slices_IndexFunc_era_Turn_1_P6v0 (k : Nat) (vs : List SV) (bs : List Blk) : Option (Option (Int)) := match vs, bs with
  | [.val (.one (.sl .int p0)), .val (.one (.clo 72 (.ref (.pair .int (.sl .int))) p1)), .val (.one (.int .i64 p2)), .val (.one (.int .i64 p3))], [] => some (slices_IndexFunc_era_Turn_1_L6 k p0 p1 p2 p3)
  | _, _ => none
def slices_IndexFunc_era_Turn_1_P6 (k : Nat) (vs : List SV) (bs : List Blk) : Option (Int) := match slices_IndexFunc_era_Turn_1_P6v0 k vs bs with | some r => r | none => none
def slices_IndexFunc_era_Turn_1_Λ (k L : Nat) (vs : List SV) (bs : List Blk) : Option (Int) := match Nat.beq L 6 with | true => slices_IndexFunc_era_Turn_1_P6 k vs bs | false => none
noncomputable def slices_IndexFunc_era_Turn_1_C : List (Cut (Tup [⟨false, .int⟩])) := cuts Try.prog (lkΓ [(72, era_Turn_1_S)]) Try.f78.ntmps [(6, [0, 1, 7, 8])] (bodyOf Try.f78) (κ0 Try.prog Try.f78 false [⟨false, .int⟩])
set_option maxRecDepth 5000000 in
theorem slices_IndexFunc_era_Turn_1_c6 (k : Nat) (p0 : List Int) (p1 : Int × List Int) (p2 : Int) (p3 : Int) : ((nthC slices_IndexFunc_era_Turn_1_C 0).g (mkSt [0, 1, 7, 8] [.val (.one (.sl .int p0)), .val (.one (.clo 72 (.ref (.pair .int (.sl .int))) p1)), .val (.one (.int .i64 p2)), .val (.one (.int .i64 p3))] [])).run (slices_IndexFunc_era_Turn_1_Λ k) = slices_IndexFunc_era_Turn_1_L6 (k + 1) p0 p1 p2 p3 := by kernel_rfl
set_option maxHeartbeats 0 in
set_option maxRecDepth 5000000 in
theorem slices_IndexFunc_era_Turn_1_e6 (k : Nat) (vs : List SV) (bs : List Blk) (r : Int) (h : slices_IndexFunc_era_Turn_1_P6v0 (k + 1) vs bs = some (some r)) : ((nthC slices_IndexFunc_era_Turn_1_C 0).g (mkSt [0, 1, 7, 8] vs bs)).run (slices_IndexFunc_era_Turn_1_Λ k) = some r := by
  unfold slices_IndexFunc_era_Turn_1_P6v0 at h
  split at h
  · exact (slices_IndexFunc_era_Turn_1_c6 k _ _ _ _).trans (Option.some.inj h)
  · cases h
theorem slices_IndexFunc_era_Turn_1_d6 : CutOk slices_IndexFunc_era_Turn_1_Λ (nthC slices_IndexFunc_era_Turn_1_C 0) := by
  refine cutOk_of (L := 6) (live := [0, 1, 7, 8]) (by kernel_rfl) (by kernel_rfl) fun k vs bs r h => ?_
  change slices_IndexFunc_era_Turn_1_P6 (k + 1) vs bs = some r at h
  unfold slices_IndexFunc_era_Turn_1_P6 at h
  split at h
  · rename_i q hq
    exact slices_IndexFunc_era_Turn_1_e6 k vs bs r (hq.trans (congrArg some h))
  cases h
theorem slices_IndexFunc_era_Turn_1_cuts : ∀ p ∈ cuts Try.prog (lkΓ [(72, era_Turn_1_S)]) Try.f78.ntmps [(6, [0, 1, 7, 8])] (bodyOf Try.f78) (κ0 Try.prog Try.f78 false [⟨false, .int⟩]), CutOk slices_IndexFunc_era_Turn_1_Λ p := cutsOk (l := slices_IndexFunc_era_Turn_1_C) (n := 1) (by kernel_rfl) fun
  | 0, _ => slices_IndexFunc_era_Turn_1_d6
  | k + 1, h => absurd h (by omega)
set_option maxHeartbeats 0 in
set_option maxRecDepth 5000000 in
theorem slices_IndexFunc_era_Turn_1_z6 (vs : List SV) (bs : List Blk) (q : Option (Int)) (h : slices_IndexFunc_era_Turn_1_P6v0 0 vs bs = some q) : q = none := by
  unfold slices_IndexFunc_era_Turn_1_P6v0 at h; split at h
  · have h := Option.some.inj h; rw [← h]; first | rfl | (unfold slices_IndexFunc_era_Turn_1_L6; rfl)
  · cases h
theorem slices_IndexFunc_era_Turn_1_Λ0 (L : Nat) (vs : List SV) (bs : List Blk) : slices_IndexFunc_era_Turn_1_Λ 0 L vs bs = none := by
  unfold slices_IndexFunc_era_Turn_1_Λ
  split
  · unfold slices_IndexFunc_era_Turn_1_P6
    split
    · rename_i q hq; exact slices_IndexFunc_era_Turn_1_z6 _ _ q hq
    rfl
  rfl
set_option maxRecDepth 5000000 in
theorem slices_IndexFunc_era_Turn_1_run (K : Nat) (x : Tup [⟨false, (.sl .int)⟩, ⟨false, (.clo 72 (.ref (.pair .int (.sl .int))))⟩]) : (pxFn Try.prog (lkΓ [(72, era_Turn_1_S)]) [(6, [0, 1, 7, 8])] Try.f78 (bodyOf Try.f78) false [⟨false, .int⟩] (encTup [⟨false, (.sl .int)⟩, ⟨false, (.clo 72 (.ref (.pair .int (.sl .int))))⟩] x)).run (slices_IndexFunc_era_Turn_1_Λ K) = slices_IndexFunc_era_Turn_1_K K x := by kernel_rfl
set_option maxHeartbeats 0 in
set_option maxRecDepth 5000000 in
def slices_Index_P6v0 (k : Nat) (vs : List SV) (bs : List Blk) : Option (Option (Int)) := match vs, bs with
  | [.val (.one (.sl .bool p0)), .val (.one (.bool p1)), .val (.one (.int .i64 p2)), .val (.one (.int .i64 p3))], [] => some (slices_Index_L6 k p0 p1 p2 p3)
  | _, _ => none
def slices_Index_P6 (k : Nat) (vs : List SV) (bs : List Blk) : Option (Int) := match slices_Index_P6v0 k vs bs with | some r => r | none => none
def slices_Index_Λ (k L : Nat) (vs : List SV) (bs : List Blk) : Option (Int) := match Nat.beq L 6 with | true => slices_Index_P6 k vs bs | false => none
noncomputable def slices_Index_C : List (Cut (Tup [⟨false, .int⟩])) := cuts Try.prog (lkΓ []) Try.f77.ntmps [(6, [0, 1, 7, 8])] (bodyOf Try.f77) (κ0 Try.prog Try.f77 false [⟨false, .int⟩])
set_option maxRecDepth 5000000 in
theorem slices_Index_c6 (k : Nat) (p0 : List Bool) (p1 : Bool) (p2 : Int) (p3 : Int) : ((nthC slices_Index_C 0).g (mkSt [0, 1, 7, 8] [.val (.one (.sl .bool p0)), .val (.one (.bool p1)), .val (.one (.int .i64 p2)), .val (.one (.int .i64 p3))] [])).run (slices_Index_Λ k) = slices_Index_L6 (k + 1) p0 p1 p2 p3 := by kernel_rfl
set_option maxHeartbeats 0 in
set_option maxRecDepth 5000000 in
theorem slices_Index_e6 (k : Nat) (vs : List SV) (bs : List Blk) (r : Int) (h : slices_Index_P6v0 (k + 1) vs bs = some (some r)) : ((nthC slices_Index_C 0).g (mkSt [0, 1, 7, 8] vs bs)).run (slices_Index_Λ k) = some r := by
  unfold slices_Index_P6v0 at h
  split at h
  · exact (slices_Index_c6 k _ _ _ _).trans (Option.some.inj h)
  · cases h
theorem slices_Index_d6 : CutOk slices_Index_Λ (nthC slices_Index_C 0) := by
  refine cutOk_of (L := 6) (live := [0, 1, 7, 8]) (by kernel_rfl) (by kernel_rfl) fun k vs bs r h => ?_
  change slices_Index_P6 (k + 1) vs bs = some r at h
  unfold slices_Index_P6 at h
  split at h
  · rename_i q hq
    exact slices_Index_e6 k vs bs r (hq.trans (congrArg some h))
  cases h
theorem slices_Index_cuts : ∀ p ∈ cuts Try.prog (lkΓ []) Try.f77.ntmps [(6, [0, 1, 7, 8])] (bodyOf Try.f77) (κ0 Try.prog Try.f77 false [⟨false, .int⟩]), CutOk slices_Index_Λ p := cutsOk (l := slices_Index_C) (n := 1) (by kernel_rfl) fun
  | 0, _ => slices_Index_d6
  | k + 1, h => absurd h (by omega)
set_option maxHeartbeats 0 in
set_option maxRecDepth 5000000 in
theorem slices_Index_z6 (vs : List SV) (bs : List Blk) (q : Option (Int)) (h : slices_Index_P6v0 0 vs bs = some q) : q = none := by
  unfold slices_Index_P6v0 at h; split at h
  · have h := Option.some.inj h; rw [← h]; first | rfl | (unfold slices_Index_L6; rfl)
  · cases h
theorem slices_Index_Λ0 (L : Nat) (vs : List SV) (bs : List Blk) : slices_Index_Λ 0 L vs bs = none := by
  unfold slices_Index_Λ
  split
  · unfold slices_Index_P6
    split
    · rename_i q hq; exact slices_Index_z6 _ _ q hq
    rfl
  rfl
set_option maxRecDepth 5000000 in
theorem slices_Index_run (K : Nat) (x : Tup [⟨false, (.sl .bool)⟩, ⟨false, .bool⟩]) : (pxFn Try.prog (lkΓ []) [(6, [0, 1, 7, 8])] Try.f77 (bodyOf Try.f77) false [⟨false, .int⟩] (encTup [⟨false, (.sl .bool)⟩, ⟨false, .bool⟩] x)).run (slices_Index_Λ K) = slices_Index_K K x := by kernel_rfl
set_option maxRecDepth 5000000 in
theorem pool_own_run (x : Tup [⟨true, (.pair (.sl .int) (.pair (.sl .int) (.pair (.sl .int) (.sl .int))))⟩]) : (pxFn Try.prog (lkΓ [(71, slices_Clone_S)]) [] Try.f67 (bodyOf Try.f67) true [⟨true, (.pair (.sl .int) (.pair (.sl .int) (.pair (.sl .int) (.sl .int))))⟩] (encTup [⟨true, (.pair (.sl .int) (.pair (.sl .int) (.pair (.sl .int) (.sl .int))))⟩] x)).run (fun _ _ _ => none) = pool_own x := by kernel_rfl
theorem pool_own_cuts : ∀ p ∈ cuts Try.prog (lkΓ [(71, slices_Clone_S)]) Try.f67.ntmps [] (bodyOf Try.f67) (κ0 Try.prog Try.f67 true [⟨true, (.pair (.sl .int) (.pair (.sl .int) (.pair (.sl .int) (.sl .int))))⟩]), CutOk (fun _ _ _ _ => none) p := cutsNil (by kernel_rfl)
set_option maxRecDepth 5000000 in
theorem tendrillaw07_live_run (x : Tup []) : (pxFn Try.prog (lkΓ [(11, arena_New_S), (16, arena_Take_S), (17, arena_Retire_S), (24, arena_Turn_S), (32, tendrillaw07_plain_S)]) [] Try.f9 (bodyOf Try.f9) false [⟨false, .bool⟩] (encTup [] x)).run (fun _ _ _ => none) = tendrillaw07_live x := by kernel_rfl
theorem tendrillaw07_live_cuts : ∀ p ∈ cuts Try.prog (lkΓ [(11, arena_New_S), (16, arena_Take_S), (17, arena_Retire_S), (24, arena_Turn_S), (32, tendrillaw07_plain_S)]) Try.f9.ntmps [] (bodyOf Try.f9) (κ0 Try.prog Try.f9 false [⟨false, .bool⟩]), CutOk (fun _ _ _ _ => none) p := cutsNil (by kernel_rfl)
set_option maxRecDepth 5000000 in
theorem place_Check_run (x : Tup [⟨true, (.pair .int (.pair .int (.pair .int (.pair .int .int))))⟩]) : (pxFn Try.prog (lkΓ []) [] Try.f34 (bodyOf Try.f34) false [⟨false, .int⟩] (encTup [⟨true, (.pair .int (.pair .int (.pair .int (.pair .int .int))))⟩] x)).run (fun _ _ _ => none) = place_Check x := by kernel_rfl
theorem place_Check_cuts : ∀ p ∈ cuts Try.prog (lkΓ []) Try.f34.ntmps [] (bodyOf Try.f34) (κ0 Try.prog Try.f34 false [⟨false, .int⟩]), CutOk (fun _ _ _ _ => none) p := cutsNil (by kernel_rfl)
set_option maxRecDepth 5000000 in
theorem era_Turn_1_run (x : Tup [⟨false, .int⟩, ⟨false, (.ref (.pair .int (.sl .int)))⟩]) : (pxFn Try.prog (lkΓ []) [] Try.f72 (bodyOf Try.f72) false [⟨false, .bool⟩] (encTup [⟨false, .int⟩, ⟨false, (.ref (.pair .int (.sl .int)))⟩] x)).run (fun _ _ _ => none) = era_Turn_1 x := by kernel_rfl
theorem era_Turn_1_cuts : ∀ p ∈ cuts Try.prog (lkΓ []) Try.f72.ntmps [] (bodyOf Try.f72) (κ0 Try.prog Try.f72 false [⟨false, .bool⟩]), CutOk (fun _ _ _ _ => none) p := cutsNil (by kernel_rfl)
end Go.Proofs.YtcoiboghdmmdcacFn
