/- What the interpreter of code computes of these functions, part 6; no condition. -/
import Derived.Test.YtcoiboghdmmdcacProg
import Derived.KernelRfl
import Derived.Test.YtcoiboghdmmdcacPx25
import Derived.Test.YtcoiboghdmmdcacFnsD
set_option linter.unusedVariables false
set_option linter.unusedSimpArgs false
namespace Go.Proofs.YtcoiboghdmmdcacFn
open Go Go.RowKit Go.Proofs.YtcoiboghdmmdcacPx
set_option maxHeartbeats 0 in
set_option maxRecDepth 5000000 in
def pool_Reclaim_P14v0 (k : Nat) (vs : List SV) (bs : List Blk) : Option (Option ((List Int × List Int × List Int × List Int) × Int)) := match vs, bs with
  | [.val (.one (.int .i64 p0)), .val (.one (.ptr 0 0)), .val (.one (.ptr 1 0)), .val (.one (.int .i64 p1)), .val (.one (.row 2)), .val (.one (.int .i64 p2)), .val (.one (.int .i64 p3))], [.box [(.row 3), (.row 2), (.row 4), (.row 5)], .box [.nil, .nil, .nil, .nil], .row .int p4, .row .int p5, .row .int p6, .row .int p7] => some (pool_Reclaim_L14 k p0 p1 p2 p3 p4 p5 p6 p7)
  | _, _ => none
def pool_Reclaim_P14 (k : Nat) (vs : List SV) (bs : List Blk) : Option ((List Int × List Int × List Int × List Int) × Int) := match pool_Reclaim_P14v0 k vs bs with | some r => r | none => none
def pool_Reclaim_Λ (k L : Nat) (vs : List SV) (bs : List Blk) : Option ((List Int × List Int × List Int × List Int) × Int) := match Nat.beq L 14 with | true => pool_Reclaim_P14 k vs bs | false => none
noncomputable def pool_Reclaim_C : List (Cut (Tup [⟨true, (.pair (.sl .int) (.pair (.sl .int) (.pair (.sl .int) (.sl .int))))⟩, ⟨false, .int⟩])) := cuts Try.prog (lkΓ [(42, pool_Check_S), (67, pool_own_S)]) Try.f54.ntmps [(14, [1, 2, 4, 6, 19, 20, 21])] (bodyOf Try.f54) (κ0 Try.prog Try.f54 true [⟨true, (.pair (.sl .int) (.pair (.sl .int) (.pair (.sl .int) (.sl .int))))⟩, ⟨false, .int⟩])
set_option maxRecDepth 5000000 in
theorem pool_Reclaim_c14 (k : Nat) (p0 : Int) (p1 : Int) (p2 : Int) (p3 : Int) (p4 : List Int) (p5 : List Int) (p6 : List Int) (p7 : List Int) : ((nthC pool_Reclaim_C 0).g (mkSt [1, 2, 4, 6, 19, 20, 21] [.val (.one (.int .i64 p0)), .val (.one (.ptr 0 0)), .val (.one (.ptr 1 0)), .val (.one (.int .i64 p1)), .val (.one (.row 2)), .val (.one (.int .i64 p2)), .val (.one (.int .i64 p3))] [.box [(.row 3), (.row 2), (.row 4), (.row 5)], .box [.nil, .nil, .nil, .nil], .row .int p4, .row .int p5, .row .int p6, .row .int p7])).run (pool_Reclaim_Λ k) = pool_Reclaim_L14 (k + 1) p0 p1 p2 p3 p4 p5 p6 p7 := by kernel_rfl
set_option maxHeartbeats 0 in
set_option maxRecDepth 5000000 in
theorem pool_Reclaim_e14 (k : Nat) (vs : List SV) (bs : List Blk) (r : ((List Int) × ((List Int) × ((List Int) × (List Int)))) × Int) (h : pool_Reclaim_P14v0 (k + 1) vs bs = some (some r)) : ((nthC pool_Reclaim_C 0).g (mkSt [1, 2, 4, 6, 19, 20, 21] vs bs)).run (pool_Reclaim_Λ k) = some r := by
  unfold pool_Reclaim_P14v0 at h
  split at h
  · exact (pool_Reclaim_c14 k _ _ _ _ _ _ _ _).trans (Option.some.inj h)
  · cases h
theorem pool_Reclaim_d14 : CutOk pool_Reclaim_Λ (nthC pool_Reclaim_C 0) := by
  refine cutOk_of (L := 14) (live := [1, 2, 4, 6, 19, 20, 21]) (by kernel_rfl) (by kernel_rfl) fun k vs bs r h => ?_
  change pool_Reclaim_P14 (k + 1) vs bs = some r at h
  unfold pool_Reclaim_P14 at h
  split at h
  · rename_i q hq
    exact pool_Reclaim_e14 k vs bs r (hq.trans (congrArg some h))
  cases h
theorem pool_Reclaim_cuts : ∀ p ∈ cuts Try.prog (lkΓ [(42, pool_Check_S), (67, pool_own_S)]) Try.f54.ntmps [(14, [1, 2, 4, 6, 19, 20, 21])] (bodyOf Try.f54) (κ0 Try.prog Try.f54 true [⟨true, (.pair (.sl .int) (.pair (.sl .int) (.pair (.sl .int) (.sl .int))))⟩, ⟨false, .int⟩]), CutOk pool_Reclaim_Λ p := cutsOk (l := pool_Reclaim_C) (n := 1) (by kernel_rfl) fun
  | 0, _ => pool_Reclaim_d14
  | k + 1, h => absurd h (by omega)
set_option maxHeartbeats 0 in
set_option maxRecDepth 5000000 in
theorem pool_Reclaim_z14 (vs : List SV) (bs : List Blk) (q : Option (((List Int) × ((List Int) × ((List Int) × (List Int)))) × Int)) (h : pool_Reclaim_P14v0 0 vs bs = some q) : q = none := by
  unfold pool_Reclaim_P14v0 at h; split at h
  · have h := Option.some.inj h; rw [← h]; first | rfl | (unfold pool_Reclaim_L14; rfl)
  · cases h
theorem pool_Reclaim_Λ0 (L : Nat) (vs : List SV) (bs : List Blk) : pool_Reclaim_Λ 0 L vs bs = none := by
  unfold pool_Reclaim_Λ
  split
  · unfold pool_Reclaim_P14
    split
    · rename_i q hq; exact pool_Reclaim_z14 _ _ q hq
    rfl
  rfl
set_option maxRecDepth 5000000 in
theorem pool_Reclaim_run (K : Nat) (x : Tup [⟨true, (.pair (.sl .int) (.pair (.sl .int) (.pair (.sl .int) (.sl .int))))⟩, ⟨false, .int⟩]) : (pxFn Try.prog (lkΓ [(42, pool_Check_S), (67, pool_own_S)]) [(14, [1, 2, 4, 6, 19, 20, 21])] Try.f54 (bodyOf Try.f54) true [⟨true, (.pair (.sl .int) (.pair (.sl .int) (.pair (.sl .int) (.sl .int))))⟩, ⟨false, .int⟩] (encTup [⟨true, (.pair (.sl .int) (.pair (.sl .int) (.pair (.sl .int) (.sl .int))))⟩, ⟨false, .int⟩] x)).run (pool_Reclaim_Λ K) = pool_Reclaim_K K x := by kernel_rfl
set_option maxHeartbeats 0 in
set_option maxRecDepth 5000000 in
def slices_IndexFunc_era_Check_1_P6v0 (k : Nat) (vs : List SV) (bs : List Blk) : Option (Option (Int)) := match vs, bs with
  | [.val (.one (.sl .int p0)), .val (.one (.clo 65 (.ref (.pair .int (.sl .int))) p1)), .val (.one (.int .i64 p2)), .val (.one (.int .i64 p3))], [] => some (slices_IndexFunc_era_Check_1_L6 k p0 p1 p2 p3)
  | _, _ => none
def slices_IndexFunc_era_Check_1_P6 (k : Nat) (vs : List SV) (bs : List Blk) : Option (Int) := match slices_IndexFunc_era_Check_1_P6v0 k vs bs with | some r => r | none => none
def slices_IndexFunc_era_Check_1_Λ (k L : Nat) (vs : List SV) (bs : List Blk) : Option (Int) := match Nat.beq L 6 with | true => slices_IndexFunc_era_Check_1_P6 k vs bs | false => none
noncomputable def slices_IndexFunc_era_Check_1_C : List (Cut (Tup [⟨false, .int⟩])) := cuts Try.prog (lkΓ [(65, era_Check_1_S)]) Try.f78.ntmps [(6, [0, 1, 7, 8])] (bodyOf Try.f78) (κ0 Try.prog Try.f78 false [⟨false, .int⟩])
set_option maxRecDepth 5000000 in
theorem slices_IndexFunc_era_Check_1_c6 (k : Nat) (p0 : List Int) (p1 : Int × List Int) (p2 : Int) (p3 : Int) : ((nthC slices_IndexFunc_era_Check_1_C 0).g (mkSt [0, 1, 7, 8] [.val (.one (.sl .int p0)), .val (.one (.clo 65 (.ref (.pair .int (.sl .int))) p1)), .val (.one (.int .i64 p2)), .val (.one (.int .i64 p3))] [])).run (slices_IndexFunc_era_Check_1_Λ k) = slices_IndexFunc_era_Check_1_L6 (k + 1) p0 p1 p2 p3 := by kernel_rfl
set_option maxHeartbeats 0 in
set_option maxRecDepth 5000000 in
theorem slices_IndexFunc_era_Check_1_e6 (k : Nat) (vs : List SV) (bs : List Blk) (r : Int) (h : slices_IndexFunc_era_Check_1_P6v0 (k + 1) vs bs = some (some r)) : ((nthC slices_IndexFunc_era_Check_1_C 0).g (mkSt [0, 1, 7, 8] vs bs)).run (slices_IndexFunc_era_Check_1_Λ k) = some r := by
  unfold slices_IndexFunc_era_Check_1_P6v0 at h
  split at h
  · exact (slices_IndexFunc_era_Check_1_c6 k _ _ _ _).trans (Option.some.inj h)
  · cases h
theorem slices_IndexFunc_era_Check_1_d6 : CutOk slices_IndexFunc_era_Check_1_Λ (nthC slices_IndexFunc_era_Check_1_C 0) := by
  refine cutOk_of (L := 6) (live := [0, 1, 7, 8]) (by kernel_rfl) (by kernel_rfl) fun k vs bs r h => ?_
  change slices_IndexFunc_era_Check_1_P6 (k + 1) vs bs = some r at h
  unfold slices_IndexFunc_era_Check_1_P6 at h
  split at h
  · rename_i q hq
    exact slices_IndexFunc_era_Check_1_e6 k vs bs r (hq.trans (congrArg some h))
  cases h
theorem slices_IndexFunc_era_Check_1_cuts : ∀ p ∈ cuts Try.prog (lkΓ [(65, era_Check_1_S)]) Try.f78.ntmps [(6, [0, 1, 7, 8])] (bodyOf Try.f78) (κ0 Try.prog Try.f78 false [⟨false, .int⟩]), CutOk slices_IndexFunc_era_Check_1_Λ p := cutsOk (l := slices_IndexFunc_era_Check_1_C) (n := 1) (by kernel_rfl) fun
  | 0, _ => slices_IndexFunc_era_Check_1_d6
  | k + 1, h => absurd h (by omega)
set_option maxHeartbeats 0 in
set_option maxRecDepth 5000000 in
theorem slices_IndexFunc_era_Check_1_z6 (vs : List SV) (bs : List Blk) (q : Option (Int)) (h : slices_IndexFunc_era_Check_1_P6v0 0 vs bs = some q) : q = none := by
  unfold slices_IndexFunc_era_Check_1_P6v0 at h; split at h
  · have h := Option.some.inj h; rw [← h]; first | rfl | (unfold slices_IndexFunc_era_Check_1_L6; rfl)
  · cases h
theorem slices_IndexFunc_era_Check_1_Λ0 (L : Nat) (vs : List SV) (bs : List Blk) : slices_IndexFunc_era_Check_1_Λ 0 L vs bs = none := by
  unfold slices_IndexFunc_era_Check_1_Λ
  split
  · unfold slices_IndexFunc_era_Check_1_P6
    split
    · rename_i q hq; exact slices_IndexFunc_era_Check_1_z6 _ _ q hq
    rfl
  rfl
set_option maxRecDepth 5000000 in
theorem slices_IndexFunc_era_Check_1_run (K : Nat) (x : Tup [⟨false, (.sl .int)⟩, ⟨false, (.clo 65 (.ref (.pair .int (.sl .int))))⟩]) : (pxFn Try.prog (lkΓ [(65, era_Check_1_S)]) [(6, [0, 1, 7, 8])] Try.f78 (bodyOf Try.f78) false [⟨false, .int⟩] (encTup [⟨false, (.sl .int)⟩, ⟨false, (.clo 65 (.ref (.pair .int (.sl .int))))⟩] x)).run (slices_IndexFunc_era_Check_1_Λ K) = slices_IndexFunc_era_Check_1_K K x := by kernel_rfl
set_option maxHeartbeats 0 in
set_option maxRecDepth 5000000 in
def slices_Repeat_P18v0 (k : Nat) (vs : List SV) (bs : List Blk) : Option (Option (List Int)) := match vs, bs with
  | [.val (.one (.row 0)), .val (.one (.int .i64 p0))], [.row .int p1] => some (slices_Repeat_L18 k p0 p1)
  | _, _ => none
def slices_Repeat_P18 (k : Nat) (vs : List SV) (bs : List Blk) : Option (List Int) := match slices_Repeat_P18v0 k vs bs with | some r => r | none => none
def slices_Repeat_Λ (k L : Nat) (vs : List SV) (bs : List Blk) : Option (List Int) := match Nat.beq L 18 with | true => slices_Repeat_P18 k vs bs | false => none
noncomputable def slices_Repeat_C : List (Cut (Tup [⟨false, (.sl .int)⟩])) := cuts Try.prog (lkΓ [(76, math_bits_Mul_S), (flagK, flagS)]) Try.f63.ntmps [(18, [7, 8])] (bodyOf Try.f63) (κ0 Try.prog Try.f63 true [⟨false, (.sl .int)⟩])
set_option maxRecDepth 5000000 in
theorem slices_Repeat_c18 (k : Nat) (p0 : Int) (p1 : List Int) : ((nthC slices_Repeat_C 0).g (mkSt [7, 8] [.val (.one (.row 0)), .val (.one (.int .i64 p0))] [.row .int p1])).run (slices_Repeat_Λ k) = slices_Repeat_L18 (k + 1) p0 p1 := by kernel_rfl
set_option maxHeartbeats 0 in
set_option maxRecDepth 5000000 in
theorem slices_Repeat_e18 (k : Nat) (vs : List SV) (bs : List Blk) (r : (List Int)) (h : slices_Repeat_P18v0 (k + 1) vs bs = some (some r)) : ((nthC slices_Repeat_C 0).g (mkSt [7, 8] vs bs)).run (slices_Repeat_Λ k) = some r := by
  unfold slices_Repeat_P18v0 at h
  split at h
  · exact (slices_Repeat_c18 k _ _).trans (Option.some.inj h)
  · cases h
theorem slices_Repeat_d18 : CutOk slices_Repeat_Λ (nthC slices_Repeat_C 0) := by
  refine cutOk_of (L := 18) (live := [7, 8]) (by kernel_rfl) (by kernel_rfl) fun k vs bs r h => ?_
  change slices_Repeat_P18 (k + 1) vs bs = some r at h
  unfold slices_Repeat_P18 at h
  split at h
  · rename_i q hq
    exact slices_Repeat_e18 k vs bs r (hq.trans (congrArg some h))
  cases h
theorem slices_Repeat_cuts : ∀ p ∈ cuts Try.prog (lkΓ [(76, math_bits_Mul_S), (flagK, flagS)]) Try.f63.ntmps [(18, [7, 8])] (bodyOf Try.f63) (κ0 Try.prog Try.f63 true [⟨false, (.sl .int)⟩]), CutOk slices_Repeat_Λ p := cutsOk (l := slices_Repeat_C) (n := 1) (by kernel_rfl) fun
  | 0, _ => slices_Repeat_d18
  | k + 1, h => absurd h (by omega)
set_option maxHeartbeats 0 in
set_option maxRecDepth 5000000 in
theorem slices_Repeat_z18 (vs : List SV) (bs : List Blk) (q : Option ((List Int))) (h : slices_Repeat_P18v0 0 vs bs = some q) : q = none := by
  unfold slices_Repeat_P18v0 at h; split at h
  · have h := Option.some.inj h; rw [← h]; first | rfl | (unfold slices_Repeat_L18; rfl)
  · cases h
theorem slices_Repeat_Λ0 (L : Nat) (vs : List SV) (bs : List Blk) : slices_Repeat_Λ 0 L vs bs = none := by
  unfold slices_Repeat_Λ
  split
  · unfold slices_Repeat_P18
    split
    · rename_i q hq; exact slices_Repeat_z18 _ _ q hq
    rfl
  rfl
set_option maxRecDepth 5000000 in
theorem slices_Repeat_run (K : Nat) (x : Tup [⟨false, (.sl .int)⟩, ⟨false, .int⟩]) : (pxFn Try.prog (lkΓ [(76, math_bits_Mul_S), (flagK, flagS)]) [(18, [7, 8])] Try.f63 (bodyOf Try.f63) true [⟨false, (.sl .int)⟩] (encTup [⟨false, (.sl .int)⟩, ⟨false, .int⟩] x)).run (slices_Repeat_Λ K) = slices_Repeat_K K x := by kernel_rfl
set_option maxRecDepth 5000000 in
theorem pool_Take_run (x : Tup [⟨true, (.pair (.sl .int) (.pair (.sl .int) (.pair (.sl .int) (.sl .int))))⟩]) : (pxFn Try.prog (lkΓ [(42, pool_Check_S), (67, pool_own_S), (68, tag_Pack_S)]) [] Try.f47 (bodyOf Try.f47) true [⟨true, (.pair (.sl .int) (.pair (.sl .int) (.pair (.sl .int) (.sl .int))))⟩, ⟨false, .int⟩, ⟨false, .int⟩] (encTup [⟨true, (.pair (.sl .int) (.pair (.sl .int) (.pair (.sl .int) (.sl .int))))⟩] x)).run (fun _ _ _ => none) = pool_Take x := by kernel_rfl
theorem pool_Take_cuts : ∀ p ∈ cuts Try.prog (lkΓ [(42, pool_Check_S), (67, pool_own_S), (68, tag_Pack_S)]) Try.f47.ntmps [] (bodyOf Try.f47) (κ0 Try.prog Try.f47 true [⟨true, (.pair (.sl .int) (.pair (.sl .int) (.pair (.sl .int) (.sl .int))))⟩, ⟨false, .int⟩, ⟨false, .int⟩]), CutOk (fun _ _ _ _ => none) p := cutsNil (by kernel_rfl)
set_option maxRecDepth 5000000 in
theorem math_bits_Mul_run (x : Tup [⟨false, (.num .u64)⟩, ⟨false, (.num .u64)⟩]) : (pxFn Try.prog (lkΓ [(79, math_bits_Mul32_S), (80, math_bits_Mul64_S)]) [] Try.f76 (bodyOf Try.f76) false [⟨false, (.num .u64)⟩, ⟨false, (.num .u64)⟩] (encTup [⟨false, (.num .u64)⟩, ⟨false, (.num .u64)⟩] x)).run (fun _ _ _ => none) = math_bits_Mul x := by kernel_rfl
theorem math_bits_Mul_cuts : ∀ p ∈ cuts Try.prog (lkΓ [(79, math_bits_Mul32_S), (80, math_bits_Mul64_S)]) Try.f76.ntmps [] (bodyOf Try.f76) (κ0 Try.prog Try.f76 false [⟨false, (.num .u64)⟩, ⟨false, (.num .u64)⟩]), CutOk (fun _ _ _ _ => none) p := cutsNil (by kernel_rfl)
set_option maxRecDepth 5000000 in
theorem era_Check_run (x : Tup [⟨true, (.pair .int (.sl .int))⟩]) : (pxFn Try.prog (lkΓ [(66000066, slices_ContainsFunc_era_Check_1_S)]) [] Try.f43 (bodyOf Try.f43) false [⟨false, .int⟩] (encTup [⟨true, (.pair .int (.sl .int))⟩] x)).run (fun _ _ _ => none) = era_Check x := by kernel_rfl
theorem era_Check_cuts : ∀ p ∈ cuts Try.prog (lkΓ [(66000066, slices_ContainsFunc_era_Check_1_S)]) Try.f43.ntmps [] (bodyOf Try.f43) (κ0 Try.prog Try.f43 false [⟨false, .int⟩]), CutOk (fun _ _ _ _ => none) p := cutsNil (by kernel_rfl)
set_option maxRecDepth 5000000 in
theorem era_Check_1_run (x : Tup [⟨false, .int⟩, ⟨false, (.ref (.pair .int (.sl .int)))⟩]) : (pxFn Try.prog (lkΓ []) [] Try.f65 (bodyOf Try.f65) false [⟨false, .bool⟩] (encTup [⟨false, .int⟩, ⟨false, (.ref (.pair .int (.sl .int)))⟩] x)).run (fun _ _ _ => none) = era_Check_1 x := by kernel_rfl
theorem era_Check_1_cuts : ∀ p ∈ cuts Try.prog (lkΓ []) Try.f65.ntmps [] (bodyOf Try.f65) (κ0 Try.prog Try.f65 false [⟨false, .bool⟩]), CutOk (fun _ _ _ _ => none) p := cutsNil (by kernel_rfl)
end Go.Proofs.YtcoiboghdmmdcacFn
