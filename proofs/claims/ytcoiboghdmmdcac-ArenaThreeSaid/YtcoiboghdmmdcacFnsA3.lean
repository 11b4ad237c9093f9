/- What the interpreter of code computes of these functions, part 3; no condition. -/
import Derived.Test.YtcoiboghdmmdcacProg
import Derived.KernelRfl
import Derived.Test.YtcoiboghdmmdcacPx25
import Derived.Test.YtcoiboghdmmdcacFnsD
set_option linter.unusedVariables false
set_option linter.unusedSimpArgs false
namespace Go.Proofs.YtcoiboghdmmdcacFn
open Go Go.RowKit Go.Proofs.YtcoiboghdmmdcacPx
set_option maxHeartbeats 0 in
set_option maxRecDepth 5000000 in
def pool_Check_P14v0 (k : Nat) (vs : List SV) (bs : List Blk) : Option (Option (Int)) := match vs, bs with
  | [.val (.one (.ptr 0 0)), .val (.one (.int .i64 p0)), .val (.one (.row 1)), .val (.one (.sl .int p1)), .val (.one (.int .i64 p2)), .val (.one (.int .i64 p3))], [.box [(.sl .int p4), (.sl .int p5), (.sl .int p6), (.sl .int p7)], .row .bool p8] => some (pool_Check_L14 k p0 p1 p2 p3 p4 p5 p6 p7 p8)
  | _, _ => none
set_option maxHeartbeats 0 in
set_option maxRecDepth 5000000 in
def pool_Check_P28v0 (k : Nat) (vs : List SV) (bs : List Blk) : Option (Option (Int)) := match vs, bs with
  | [.val (.one (.int .i64 p0)), .val (.one (.row 0)), .val (.one (.sl .int p1)), .val (.one (.int .i64 p2)), .val (.one (.int .i64 p3))], [.row .bool p4] => some (pool_Check_L28 k p0 p1 p2 p3 p4)
  | _, _ => none
def pool_Check_P14 (k : Nat) (vs : List SV) (bs : List Blk) : Option (Int) := match pool_Check_P14v0 k vs bs with | some r => r | none => none
def pool_Check_P28 (k : Nat) (vs : List SV) (bs : List Blk) : Option (Int) := match pool_Check_P28v0 k vs bs with | some r => r | none => none
def pool_Check_Λ (k L : Nat) (vs : List SV) (bs : List Blk) : Option (Int) := match Nat.beq L 14 with | true => pool_Check_P14 k vs bs | false => match Nat.beq L 28 with | true => pool_Check_P28 k vs bs | false => none
noncomputable def pool_Check_C : List (Cut (Tup [⟨false, .int⟩])) := cuts Try.prog (lkΓ [(64, slices_Contains_S)]) Try.f42.ntmps [(28, [3, 4, 83, 84, 85]), (14, [1, 3, 4, 35, 36, 37])] (bodyOf Try.f42) (κ0 Try.prog Try.f42 false [⟨false, .int⟩])
set_option maxRecDepth 5000000 in
theorem pool_Check_c14 (k : Nat) (p0 : Int) (p1 : List Int) (p2 : Int) (p3 : Int) (p4 : List Int) (p5 : List Int) (p6 : List Int) (p7 : List Int) (p8 : List Bool) : ((nthC pool_Check_C 0).g (mkSt [1, 3, 4, 35, 36, 37] [.val (.one (.ptr 0 0)), .val (.one (.int .i64 p0)), .val (.one (.row 1)), .val (.one (.sl .int p1)), .val (.one (.int .i64 p2)), .val (.one (.int .i64 p3))] [.box [(.sl .int p4), (.sl .int p5), (.sl .int p6), (.sl .int p7)], .row .bool p8])).run (pool_Check_Λ k) = pool_Check_L14 (k + 1) p0 p1 p2 p3 p4 p5 p6 p7 p8 := by kernel_rfl
set_option maxHeartbeats 0 in
set_option maxRecDepth 5000000 in
theorem pool_Check_e14 (k : Nat) (vs : List SV) (bs : List Blk) (r : Int) (h : pool_Check_P14v0 (k + 1) vs bs = some (some r)) : ((nthC pool_Check_C 0).g (mkSt [1, 3, 4, 35, 36, 37] vs bs)).run (pool_Check_Λ k) = some r := by
  unfold pool_Check_P14v0 at h
  split at h
  · exact (pool_Check_c14 k _ _ _ _ _ _ _ _ _).trans (Option.some.inj h)
  · cases h
set_option maxRecDepth 5000000 in
theorem pool_Check_c28 (k : Nat) (p0 : Int) (p1 : List Int) (p2 : Int) (p3 : Int) (p4 : List Bool) : ((nthC pool_Check_C 1).g (mkSt [3, 4, 83, 84, 85] [.val (.one (.int .i64 p0)), .val (.one (.row 0)), .val (.one (.sl .int p1)), .val (.one (.int .i64 p2)), .val (.one (.int .i64 p3))] [.row .bool p4])).run (pool_Check_Λ k) = pool_Check_L28 (k + 1) p0 p1 p2 p3 p4 := by kernel_rfl
set_option maxHeartbeats 0 in
set_option maxRecDepth 5000000 in
theorem pool_Check_e28 (k : Nat) (vs : List SV) (bs : List Blk) (r : Int) (h : pool_Check_P28v0 (k + 1) vs bs = some (some r)) : ((nthC pool_Check_C 1).g (mkSt [3, 4, 83, 84, 85] vs bs)).run (pool_Check_Λ k) = some r := by
  unfold pool_Check_P28v0 at h
  split at h
  · exact (pool_Check_c28 k _ _ _ _ _).trans (Option.some.inj h)
  · cases h
theorem pool_Check_d14 : CutOk pool_Check_Λ (nthC pool_Check_C 0) := by
  refine cutOk_of (L := 14) (live := [1, 3, 4, 35, 36, 37]) (by kernel_rfl) (by kernel_rfl) fun k vs bs r h => ?_
  change pool_Check_P14 (k + 1) vs bs = some r at h
  unfold pool_Check_P14 at h
  split at h
  · rename_i q hq
    exact pool_Check_e14 k vs bs r (hq.trans (congrArg some h))
  cases h
theorem pool_Check_d28 : CutOk pool_Check_Λ (nthC pool_Check_C 1) := by
  refine cutOk_of (L := 28) (live := [3, 4, 83, 84, 85]) (by kernel_rfl) (by kernel_rfl) fun k vs bs r h => ?_
  change pool_Check_P28 (k + 1) vs bs = some r at h
  unfold pool_Check_P28 at h
  split at h
  · rename_i q hq
    exact pool_Check_e28 k vs bs r (hq.trans (congrArg some h))
  cases h
theorem pool_Check_cuts : ∀ p ∈ cuts Try.prog (lkΓ [(64, slices_Contains_S)]) Try.f42.ntmps [(28, [3, 4, 83, 84, 85]), (14, [1, 3, 4, 35, 36, 37])] (bodyOf Try.f42) (κ0 Try.prog Try.f42 false [⟨false, .int⟩]), CutOk pool_Check_Λ p := cutsOk (l := pool_Check_C) (n := 2) (by kernel_rfl) fun
  | 0, _ => pool_Check_d14
  | 1, _ => pool_Check_d28
  | k + 2, h => absurd h (by omega)
set_option maxHeartbeats 0 in
set_option maxRecDepth 5000000 in
theorem pool_Check_z14 (vs : List SV) (bs : List Blk) (q : Option (Int)) (h : pool_Check_P14v0 0 vs bs = some q) : q = none := by
  unfold pool_Check_P14v0 at h; split at h
  · have h := Option.some.inj h; rw [← h]; first | rfl | (unfold pool_Check_L14; rfl)
  · cases h
set_option maxHeartbeats 0 in
set_option maxRecDepth 5000000 in
theorem pool_Check_z28 (vs : List SV) (bs : List Blk) (q : Option (Int)) (h : pool_Check_P28v0 0 vs bs = some q) : q = none := by
  unfold pool_Check_P28v0 at h; split at h
  · have h := Option.some.inj h; rw [← h]; first | rfl | (unfold pool_Check_L28; rfl)
  · cases h
theorem pool_Check_Λ0 (L : Nat) (vs : List SV) (bs : List Blk) : pool_Check_Λ 0 L vs bs = none := by
  unfold pool_Check_Λ
  split
  · unfold pool_Check_P14
    split
    · rename_i q hq; exact pool_Check_z14 _ _ q hq
    rfl
  split
  · unfold pool_Check_P28
    split
    · rename_i q hq; exact pool_Check_z28 _ _ q hq
    rfl
  rfl
set_option maxRecDepth 5000000 in
theorem pool_Check_run (K : Nat) (x : Tup [⟨true, (.pair (.sl .int) (.pair (.sl .int) (.pair (.sl .int) (.sl .int))))⟩]) : (pxFn Try.prog (lkΓ [(64, slices_Contains_S)]) [(28, [3, 4, 83, 84, 85]), (14, [1, 3, 4, 35, 36, 37])] Try.f42 (bodyOf Try.f42) false [⟨false, .int⟩] (encTup [⟨true, (.pair (.sl .int) (.pair (.sl .int) (.pair (.sl .int) (.sl .int))))⟩] x)).run (pool_Check_Λ K) = pool_Check_K K x := by kernel_rfl
set_option maxHeartbeats 0 in
set_option maxRecDepth 5000000 in
def pool_Count_P10v0 (k : Nat) (vs : List SV) (bs : List Blk) : Option (Option (Int × Int × Int)) := match vs, bs with
  | [.val (.one (.int .i64 p0)), .val (.one (.int .i64 p1)), .val (.one (.int .i64 p2)), .val (.one (.sl .int p3)), .val (.one (.int .i64 p4)), .val (.one (.int .i64 p5))], [] => some (pool_Count_L10 k p0 p1 p2 p3 p4 p5)
  | _, _ => none
def pool_Count_P10 (k : Nat) (vs : List SV) (bs : List Blk) : Option (Int × Int × Int) := match pool_Count_P10v0 k vs bs with | some r => r | none => none
def pool_Count_Λ (k L : Nat) (vs : List SV) (bs : List Blk) : Option (Int × Int × Int) := match Nat.beq L 10 with | true => pool_Count_P10 k vs bs | false => none
noncomputable def pool_Count_C : List (Cut (Tup [⟨false, .int⟩, ⟨false, .int⟩, ⟨false, .int⟩])) := cuts Try.prog (lkΓ [(42, pool_Check_S)]) Try.f25.ntmps [(10, [2, 3, 4, 11, 12, 13])] (bodyOf Try.f25) (κ0 Try.prog Try.f25 false [⟨false, .int⟩, ⟨false, .int⟩, ⟨false, .int⟩])
set_option maxRecDepth 5000000 in
theorem pool_Count_c10 (k : Nat) (p0 : Int) (p1 : Int) (p2 : Int) (p3 : List Int) (p4 : Int) (p5 : Int) : ((nthC pool_Count_C 0).g (mkSt [2, 3, 4, 11, 12, 13] [.val (.one (.int .i64 p0)), .val (.one (.int .i64 p1)), .val (.one (.int .i64 p2)), .val (.one (.sl .int p3)), .val (.one (.int .i64 p4)), .val (.one (.int .i64 p5))] [])).run (pool_Count_Λ k) = pool_Count_L10 (k + 1) p0 p1 p2 p3 p4 p5 := by kernel_rfl
set_option maxHeartbeats 0 in
set_option maxRecDepth 5000000 in
theorem pool_Count_e10 (k : Nat) (vs : List SV) (bs : List Blk) (r : Int × Int × Int) (h : pool_Count_P10v0 (k + 1) vs bs = some (some r)) : ((nthC pool_Count_C 0).g (mkSt [2, 3, 4, 11, 12, 13] vs bs)).run (pool_Count_Λ k) = some r := by
  unfold pool_Count_P10v0 at h
  split at h
  · exact (pool_Count_c10 k _ _ _ _ _ _).trans (Option.some.inj h)
  · cases h
theorem pool_Count_d10 : CutOk pool_Count_Λ (nthC pool_Count_C 0) := by
  refine cutOk_of (L := 10) (live := [2, 3, 4, 11, 12, 13]) (by kernel_rfl) (by kernel_rfl) fun k vs bs r h => ?_
  change pool_Count_P10 (k + 1) vs bs = some r at h
  unfold pool_Count_P10 at h
  split at h
  · rename_i q hq
    exact pool_Count_e10 k vs bs r (hq.trans (congrArg some h))
  cases h
theorem pool_Count_cuts : ∀ p ∈ cuts Try.prog (lkΓ [(42, pool_Check_S)]) Try.f25.ntmps [(10, [2, 3, 4, 11, 12, 13])] (bodyOf Try.f25) (κ0 Try.prog Try.f25 false [⟨false, .int⟩, ⟨false, .int⟩, ⟨false, .int⟩]), CutOk pool_Count_Λ p := cutsOk (l := pool_Count_C) (n := 1) (by kernel_rfl) fun
  | 0, _ => pool_Count_d10
  | k + 1, h => absurd h (by omega)
set_option maxHeartbeats 0 in
set_option maxRecDepth 5000000 in
theorem pool_Count_z10 (vs : List SV) (bs : List Blk) (q : Option (Int × Int × Int)) (h : pool_Count_P10v0 0 vs bs = some q) : q = none := by
  unfold pool_Count_P10v0 at h; split at h
  · have h := Option.some.inj h; rw [← h]; first | rfl | (unfold pool_Count_L10; rfl)
  · cases h
theorem pool_Count_Λ0 (L : Nat) (vs : List SV) (bs : List Blk) : pool_Count_Λ 0 L vs bs = none := by
  unfold pool_Count_Λ
  split
  · unfold pool_Count_P10
    split
    · rename_i q hq; exact pool_Count_z10 _ _ q hq
    rfl
  rfl
set_option maxRecDepth 5000000 in
theorem pool_Count_run (K : Nat) (x : Tup [⟨true, (.pair (.sl .int) (.pair (.sl .int) (.pair (.sl .int) (.sl .int))))⟩]) : (pxFn Try.prog (lkΓ [(42, pool_Check_S)]) [(10, [2, 3, 4, 11, 12, 13])] Try.f25 (bodyOf Try.f25) false [⟨false, .int⟩, ⟨false, .int⟩, ⟨false, .int⟩] (encTup [⟨true, (.pair (.sl .int) (.pair (.sl .int) (.pair (.sl .int) (.sl .int))))⟩] x)).run (pool_Count_Λ K) = pool_Count_K K x := by kernel_rfl
set_option maxRecDepth 5000000 in
theorem arena_Take_run (x : Tup [⟨true, (.pair (.sl .int) (.pair (.sl .int) (.pair (.pair (.pair (.sl .int) (.pair (.sl .int) (.pair (.sl .int) (.sl .int)))) (.pair (.pair (.sl .int) (.pair (.sl .int) (.pair (.sl .int) (.sl .int)))) (.pair (.sl .int) (.pair (.sl .int) (.pair (.sl .int) (.sl .int)))))) (.pair .int (.sl .int)))))⟩, ⟨false, .int⟩]) : (pxFn Try.prog (lkΓ [(46, arena_may_S), (47, pool_Take_S)]) [] Try.f16 (bodyOf Try.f16) false [⟨true, (.pair (.sl .int) (.pair (.sl .int) (.pair (.pair (.pair (.sl .int) (.pair (.sl .int) (.pair (.sl .int) (.sl .int)))) (.pair (.pair (.sl .int) (.pair (.sl .int) (.pair (.sl .int) (.sl .int)))) (.pair (.sl .int) (.pair (.sl .int) (.pair (.sl .int) (.sl .int)))))) (.pair .int (.sl .int)))))⟩, ⟨false, .int⟩, ⟨false, .int⟩] (encTup [⟨true, (.pair (.sl .int) (.pair (.sl .int) (.pair (.pair (.pair (.sl .int) (.pair (.sl .int) (.pair (.sl .int) (.sl .int)))) (.pair (.pair (.sl .int) (.pair (.sl .int) (.pair (.sl .int) (.sl .int)))) (.pair (.sl .int) (.pair (.sl .int) (.pair (.sl .int) (.sl .int)))))) (.pair .int (.sl .int)))))⟩, ⟨false, .int⟩] x)).run (fun _ _ _ => none) = arena_Take x := by kernel_rfl
theorem arena_Take_cuts : ∀ p ∈ cuts Try.prog (lkΓ [(46, arena_may_S), (47, pool_Take_S)]) Try.f16.ntmps [] (bodyOf Try.f16) (κ0 Try.prog Try.f16 false [⟨true, (.pair (.sl .int) (.pair (.sl .int) (.pair (.pair (.pair (.sl .int) (.pair (.sl .int) (.pair (.sl .int) (.sl .int)))) (.pair (.pair (.sl .int) (.pair (.sl .int) (.pair (.sl .int) (.sl .int)))) (.pair (.sl .int) (.pair (.sl .int) (.pair (.sl .int) (.sl .int)))))) (.pair .int (.sl .int)))))⟩, ⟨false, .int⟩, ⟨false, .int⟩]), CutOk (fun _ _ _ _ => none) p := cutsNil (by kernel_rfl)
set_option maxRecDepth 5000000 in
theorem pool_Retire_run (x : Tup [⟨true, (.pair (.sl .int) (.pair (.sl .int) (.pair (.sl .int) (.sl .int))))⟩, ⟨false, .int⟩, ⟨false, .int⟩]) : (pxFn Try.prog (lkΓ [(31, tag_Unpack_S), (42, pool_Check_S), (67, pool_own_S)]) [] Try.f48 (bodyOf Try.f48) true [⟨true, (.pair (.sl .int) (.pair (.sl .int) (.pair (.sl .int) (.sl .int))))⟩, ⟨false, .int⟩] (encTup [⟨true, (.pair (.sl .int) (.pair (.sl .int) (.pair (.sl .int) (.sl .int))))⟩, ⟨false, .int⟩, ⟨false, .int⟩] x)).run (fun _ _ _ => none) = pool_Retire x := by kernel_rfl
theorem pool_Retire_cuts : ∀ p ∈ cuts Try.prog (lkΓ [(31, tag_Unpack_S), (42, pool_Check_S), (67, pool_own_S)]) Try.f48.ntmps [] (bodyOf Try.f48) (κ0 Try.prog Try.f48 true [⟨true, (.pair (.sl .int) (.pair (.sl .int) (.pair (.sl .int) (.sl .int))))⟩, ⟨false, .int⟩]), CutOk (fun _ _ _ _ => none) p := cutsNil (by kernel_rfl)
set_option maxRecDepth 5000000 in
theorem slices_ContainsFunc_era_Turn_1_run (x : Tup [⟨false, (.sl .int)⟩, ⟨false, (.clo 72 (.ref (.pair .int (.sl .int))))⟩]) : (pxFn Try.prog (lkΓ [(73000078, slices_IndexFunc_era_Turn_1_S)]) [] Try.f66 (bodyOf Try.f66) false [⟨false, .bool⟩] (encTup [⟨false, (.sl .int)⟩, ⟨false, (.clo 72 (.ref (.pair .int (.sl .int))))⟩] x)).run (fun _ _ _ => none) = slices_ContainsFunc_era_Turn_1 x := by kernel_rfl
theorem slices_ContainsFunc_era_Turn_1_cuts : ∀ p ∈ cuts Try.prog (lkΓ [(73000078, slices_IndexFunc_era_Turn_1_S)]) Try.f66.ntmps [] (bodyOf Try.f66) (κ0 Try.prog Try.f66 false [⟨false, .bool⟩]), CutOk (fun _ _ _ _ => none) p := cutsNil (by kernel_rfl)
set_option maxRecDepth 5000000 in
theorem math_bits_Mul64_run (x : Tup [⟨false, (.num .u64)⟩, ⟨false, (.num .u64)⟩]) : (pxFn Try.prog (lkΓ []) [] Try.f80 (bodyOf Try.f80) false [⟨false, (.num .u64)⟩, ⟨false, (.num .u64)⟩] (encTup [⟨false, (.num .u64)⟩, ⟨false, (.num .u64)⟩] x)).run (fun _ _ _ => none) = math_bits_Mul64 x := by kernel_rfl
theorem math_bits_Mul64_cuts : ∀ p ∈ cuts Try.prog (lkΓ []) Try.f80.ntmps [] (bodyOf Try.f80) (κ0 Try.prog Try.f80 false [⟨false, (.num .u64)⟩, ⟨false, (.num .u64)⟩]), CutOk (fun _ _ _ _ => none) p := cutsNil (by kernel_rfl)
set_option maxRecDepth 5000000 in
theorem era_New_run (x : Tup [⟨false, .int⟩]) : (pxFn Try.prog (lkΓ [(63, slices_Repeat_S)]) [] Try.f35 (bodyOf Try.f35) true [⟨true, (.pair .int (.sl .int))⟩, ⟨false, .int⟩] (encTup [⟨false, .int⟩] x)).run (fun _ _ _ => none) = era_New x := by kernel_rfl
theorem era_New_cuts : ∀ p ∈ cuts Try.prog (lkΓ [(63, slices_Repeat_S)]) Try.f35.ntmps [] (bodyOf Try.f35) (κ0 Try.prog Try.f35 true [⟨true, (.pair .int (.sl .int))⟩, ⟨false, .int⟩]), CutOk (fun _ _ _ _ => none) p := cutsNil (by kernel_rfl)
end Go.Proofs.YtcoiboghdmmdcacFn
