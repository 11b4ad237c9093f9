/- What the interpreter of code computes of these functions, part 6; no condition. -/
import Derived.Test.YtcoiboghdmmdcadProg
import Derived.KernelRfl
import Derived.Test.YtcoiboghdmmdcadPx25
import Derived.Test.YtcoiboghdmmdcadFnsD
set_option linter.unusedVariables false
set_option linter.unusedSimpArgs false
namespace Go.Proofs.YtcoiboghdmmdcadFn
open Go Go.RowKit Go.Proofs.YtcoiboghdmmdcadPx
set_option maxHeartbeats 0 in
set_option maxRecDepth 5000000 in
def pool_Check_P14v0 (k : Nat) (vs : List SV) (bs : List Blk) : Option (Option (Int)) := match vs, bs with
  | [.val (.one (.ptr 0 0)), .val (.one (.int .i64 p0)), .val (.one (.row 1)), .val (.one (.sl .int p1)), .val (.one (.int .i64 p2)), .val (.one (.int .i64 p3))], [.box [(.sl .int p4), (.sl .int p5), (.sl .int p6), (.sl .int p7)], .row .bool p8] => some (pool_Check_L14 k p0 p1 p2 p3 p4 p5 p6 p7 p8)
  | _, _ => none
set_option maxHeartbeats 0 in
set_option maxRecDepth 5000000 in
def pool_Check_P28v0 (k : Nat) (vs : List SV) (bs : List Blk) : Option (Option (Int)) := match vs, bs with
  | [.val (.one (.int .i64 p0)), .val (.one (.row 0)), .val (.one (.sl .int p1)), .val (.one (.int .i64 p2)), .val (.one (.int .i64 p3))], [.row .bool p4] => some (pool_Check_L28 k p0 p1 p2 p3 p4)
  | _, _ => none
def pool_Check_P14 (k : Nat) (vs : List SV) (bs : List Blk) : Option (Int) := match pool_Check_P14v0 k vs bs with | some r => r | none => none
def pool_Check_P28 (k : Nat) (vs : List SV) (bs : List Blk) : Option (Int) := match pool_Check_P28v0 k vs bs with | some r => r | none => none
def pool_Check_Λ (k L : Nat) (vs : List SV) (bs : List Blk) : Option (Int) := match Nat.beq L 14 with | true => pool_Check_P14 k vs bs | false => match Nat.beq L 28 with | true => pool_Check_P28 k vs bs | false => none
noncomputable def pool_Check_C : List (Cut (Tup [⟨false, .int⟩])) := cuts Try.prog (lkΓ [(75, slices_Contains_S)]) Try.f61.ntmps [(28, [3, 4, 83, 84, 85]), (14, [1, 3, 4, 35, 36, 37])] (bodyOf Try.f61) (κ0 Try.prog Try.f61 false [⟨false, .int⟩])
set_option maxRecDepth 5000000 in
theorem pool_Check_c14 (k : Nat) (p0 : Int) (p1 : List Int) (p2 : Int) (p3 : Int) (p4 : List Int) (p5 : List Int) (p6 : List Int) (p7 : List Int) (p8 : List Bool) : ((nthC pool_Check_C 0).g (mkSt [1, 3, 4, 35, 36, 37] [.val (.one (.ptr 0 0)), .val (.one (.int .i64 p0)), .val (.one (.row 1)), .val (.one (.sl .int p1)), .val (.one (.int .i64 p2)), .val (.one (.int .i64 p3))] [.box [(.sl .int p4), (.sl .int p5), (.sl .int p6), (.sl .int p7)], .row .bool p8])).run (pool_Check_Λ k) = pool_Check_L14 (k + 1) p0 p1 p2 p3 p4 p5 p6 p7 p8 := by kernel_rfl
set_option maxHeartbeats 0 in
set_option maxRecDepth 5000000 in
theorem pool_Check_e14 (k : Nat) (vs : List SV) (bs : List Blk) (r : Int) (h : pool_Check_P14v0 (k + 1) vs bs = some (some r)) : ((nthC pool_Check_C 0).g (mkSt [1, 3, 4, 35, 36, 37] vs bs)).run (pool_Check_Λ k) = some r := by
  unfold pool_Check_P14v0 at h
  split at h
  · exact (pool_Check_c14 k _ _ _ _ _ _ _ _ _).trans (Option.some.inj h)
  · cases h
set_option maxRecDepth 5000000 in
theorem pool_Check_c28 (k : Nat) (p0 : Int) (p1 : List Int) (p2 : Int) (p3 : Int) (p4 : List Bool) : ((nthC pool_Check_C 1).g (mkSt [3, 4, 83, 84, 85] [.val (.one (.int .i64 p0)), .val (.one (.row 0)), .val (.one (.sl .int p1)), .val (.one (.int .i64 p2)), .val (.one (.int .i64 p3))] [.row .bool p4])).run (pool_Check_Λ k) = pool_Check_L28 (k + 1) p0 p1 p2 p3 p4 := by kernel_rfl
set_option maxHeartbeats 0 in
set_option maxRecDepth 5000000 in
theorem pool_Check_e28 (k : Nat) (vs : List SV) (bs : List Blk) (r : Int) (h : pool_Check_P28v0 (k + 1) vs bs = some (some r)) : ((nthC pool_Check_C 1).g (mkSt [3, 4, 83, 84, 85] vs bs)).run (pool_Check_Λ k) = some r := by
  unfold pool_Check_P28v0 at h
  split at h
  · exact (pool_Check_c28 k _ _ _ _ _).trans (Option.some.inj h)
  · cases h
theorem pool_Check_d14 : CutOk pool_Check_Λ (nthC pool_Check_C 0) := by
  refine cutOk_of (L := 14) (live := [1, 3, 4, 35, 36, 37]) (by kernel_rfl) (by kernel_rfl) fun k vs bs r h => ?_
  change pool_Check_P14 (k + 1) vs bs = some r at h
  unfold pool_Check_P14 at h
  split at h
  · rename_i q hq
    exact pool_Check_e14 k vs bs r (hq.trans (congrArg some h))
  cases h
theorem pool_Check_d28 : CutOk pool_Check_Λ (nthC pool_Check_C 1) := by
  refine cutOk_of (L := 28) (live := [3, 4, 83, 84, 85]) (by kernel_rfl) (by kernel_rfl) fun k vs bs r h => ?_
  change pool_Check_P28 (k + 1) vs bs = some r at h
  unfold pool_Check_P28 at h
  split at h
  · rename_i q hq
    exact pool_Check_e28 k vs bs r (hq.trans (congrArg some h))
  cases h
theorem pool_Check_cuts : ∀ p ∈ cuts Try.prog (lkΓ [(75, slices_Contains_S)]) Try.f61.ntmps [(28, [3, 4, 83, 84, 85]), (14, [1, 3, 4, 35, 36, 37])] (bodyOf Try.f61) (κ0 Try.prog Try.f61 false [⟨false, .int⟩]), CutOk pool_Check_Λ p := cutsOk (l := pool_Check_C) (n := 2) (by kernel_rfl) fun
  | 0, _ => pool_Check_d14
  | 1, _ => pool_Check_d28
  | k + 2, h => absurd h (by omega)
set_option maxHeartbeats 0 in
set_option maxRecDepth 5000000 in
theorem pool_Check_z14 (vs : List SV) (bs : List Blk) (q : Option (Int)) (h : pool_Check_P14v0 0 vs bs = some q) : q = none := by
  unfold pool_Check_P14v0 at h; split at h
  · have h := Option.some.inj h; rw [← h]; first | rfl | (unfold pool_Check_L14; rfl)
  · cases h
set_option maxHeartbeats 0 in
set_option maxRecDepth 5000000 in
theorem pool_Check_z28 (vs : List SV) (bs : List Blk) (q : Option (Int)) (h : pool_Check_P28v0 0 vs bs = some q) : q = none := by
  unfold pool_Check_P28v0 at h; split at h
  · have h := Option.some.inj h; rw [← h]; first | rfl | (unfold pool_Check_L28; rfl)
  · cases h
theorem pool_Check_Λ0 (L : Nat) (vs : List SV) (bs : List Blk) : pool_Check_Λ 0 L vs bs = none := by
  unfold pool_Check_Λ
  split
  · unfold pool_Check_P14
    split
    · rename_i q hq; exact pool_Check_z14 _ _ q hq
    rfl
  split
  · unfold pool_Check_P28
    split
    · rename_i q hq; exact pool_Check_z28 _ _ q hq
    rfl
  rfl
set_option maxRecDepth 5000000 in
theorem pool_Check_run (K : Nat) (x : Tup [⟨true, (.pair (.sl .int) (.pair (.sl .int) (.pair (.sl .int) (.sl .int))))⟩]) : (pxFn Try.prog (lkΓ [(75, slices_Contains_S)]) [(28, [3, 4, 83, 84, 85]), (14, [1, 3, 4, 35, 36, 37])] Try.f61 (bodyOf Try.f61) false [⟨false, .int⟩] (encTup [⟨true, (.pair (.sl .int) (.pair (.sl .int) (.pair (.sl .int) (.sl .int))))⟩] x)).run (pool_Check_Λ K) = pool_Check_K K x := by kernel_rfl
set_option maxHeartbeats 0 in
set_option maxRecDepth 5000000 in
def tendrilref06_New_P12v0 (k : Nat) (vs : List SV) (bs : List Blk) : Option (Option ((Int × List Int) × Int)) := match vs, bs with
  | [.val (.one (.ptr 0 0)), .val (.one (.ptr 1 0)), .val (.one (.int .i64 p0)), .val (.one (.int .i64 p1))], [.box [(.int .i64 p2), .nil], .box [(.int .i64 p3), .nil]] => some (tendrilref06_New_L12 k p0 p1 p2 p3)
  | _, _ => none
set_option maxHeartbeats 0 in
set_option maxRecDepth 5000000 in
def tendrilref06_New_P12v1 (k : Nat) (vs : List SV) (bs : List Blk) : Option (Option ((Int × List Int) × Int)) := match vs, bs with
  | [.val (.one (.ptr 0 0)), .val (.one (.ptr 1 0)), .val (.one (.int .i64 p0)), .val (.one (.int .i64 p1))], [.box [(.int .i64 p2), .nil], .box [(.int .i64 p3), (.row 2)], .row .int p4] => some (tendrilref06_New_L12x1 k p0 p1 p2 p3 p4)
  | _, _ => none
def tendrilref06_New_P12 (k : Nat) (vs : List SV) (bs : List Blk) : Option ((Int × List Int) × Int) := match tendrilref06_New_P12v0 k vs bs with | some r => r | none => match tendrilref06_New_P12v1 k vs bs with | some r => r | none => none
def tendrilref06_New_Λ (k L : Nat) (vs : List SV) (bs : List Blk) : Option ((Int × List Int) × Int) := match Nat.beq L 12 with | true => tendrilref06_New_P12 k vs bs | false => none
noncomputable def tendrilref06_New_C : List (Cut (Tup [⟨true, (.pair .int (.sl .int))⟩, ⟨false, .int⟩])) := cuts Try.prog (lkΓ []) Try.f43.ntmps [(12, [2, 4, 13, 14])] (bodyOf Try.f43) (κ0 Try.prog Try.f43 true [⟨true, (.pair .int (.sl .int))⟩, ⟨false, .int⟩])
set_option maxRecDepth 5000000 in
theorem tendrilref06_New_c12 (k : Nat) (p0 : Int) (p1 : Int) (p2 : Int) (p3 : Int) : ((nthC tendrilref06_New_C 0).g (mkSt [2, 4, 13, 14] [.val (.one (.ptr 0 0)), .val (.one (.ptr 1 0)), .val (.one (.int .i64 p0)), .val (.one (.int .i64 p1))] [.box [(.int .i64 p2), .nil], .box [(.int .i64 p3), .nil]])).run (tendrilref06_New_Λ k) = tendrilref06_New_L12 (k + 1) p0 p1 p2 p3 := by kernel_rfl
set_option maxHeartbeats 0 in
set_option maxRecDepth 5000000 in
theorem tendrilref06_New_e12 (k : Nat) (vs : List SV) (bs : List Blk) (r : (Int × (List Int)) × Int) (h : tendrilref06_New_P12v0 (k + 1) vs bs = some (some r)) : ((nthC tendrilref06_New_C 0).g (mkSt [2, 4, 13, 14] vs bs)).run (tendrilref06_New_Λ k) = some r := by
  unfold tendrilref06_New_P12v0 at h
  split at h
  · exact (tendrilref06_New_c12 k _ _ _ _).trans (Option.some.inj h)
  · cases h
set_option maxRecDepth 5000000 in
theorem tendrilref06_New_c12x1 (k : Nat) (p0 : Int) (p1 : Int) (p2 : Int) (p3 : Int) (p4 : List Int) : ((nthC tendrilref06_New_C 0).g (mkSt [2, 4, 13, 14] [.val (.one (.ptr 0 0)), .val (.one (.ptr 1 0)), .val (.one (.int .i64 p0)), .val (.one (.int .i64 p1))] [.box [(.int .i64 p2), .nil], .box [(.int .i64 p3), (.row 2)], .row .int p4])).run (tendrilref06_New_Λ k) = tendrilref06_New_L12x1 (k + 1) p0 p1 p2 p3 p4 := by kernel_rfl
set_option maxHeartbeats 0 in
set_option maxRecDepth 5000000 in
theorem tendrilref06_New_e12x1 (k : Nat) (vs : List SV) (bs : List Blk) (r : (Int × (List Int)) × Int) (h : tendrilref06_New_P12v1 (k + 1) vs bs = some (some r)) : ((nthC tendrilref06_New_C 0).g (mkSt [2, 4, 13, 14] vs bs)).run (tendrilref06_New_Λ k) = some r := by
  unfold tendrilref06_New_P12v1 at h
  split at h
  · exact (tendrilref06_New_c12x1 k _ _ _ _ _).trans (Option.some.inj h)
  · cases h
theorem tendrilref06_New_d12 : CutOk tendrilref06_New_Λ (nthC tendrilref06_New_C 0) := by
  refine cutOk_of (L := 12) (live := [2, 4, 13, 14]) (by kernel_rfl) (by kernel_rfl) fun k vs bs r h => ?_
  change tendrilref06_New_P12 (k + 1) vs bs = some r at h
  unfold tendrilref06_New_P12 at h
  split at h
  · rename_i q hq
    exact tendrilref06_New_e12 k vs bs r (hq.trans (congrArg some h))
  split at h
  · rename_i q hq
    exact tendrilref06_New_e12x1 k vs bs r (hq.trans (congrArg some h))
  cases h
theorem tendrilref06_New_cuts : ∀ p ∈ cuts Try.prog (lkΓ []) Try.f43.ntmps [(12, [2, 4, 13, 14])] (bodyOf Try.f43) (κ0 Try.prog Try.f43 true [⟨true, (.pair .int (.sl .int))⟩, ⟨false, .int⟩]), CutOk tendrilref06_New_Λ p := cutsOk (l := tendrilref06_New_C) (n := 1) (by kernel_rfl) fun
  | 0, _ => tendrilref06_New_d12
  | k + 1, h => absurd h (by omega)
set_option maxHeartbeats 0 in
set_option maxRecDepth 5000000 in
theorem tendrilref06_New_z12 (vs : List SV) (bs : List Blk) (q : Option ((Int × (List Int)) × Int)) (h : tendrilref06_New_P12v0 0 vs bs = some q) : q = none := by
  unfold tendrilref06_New_P12v0 at h; split at h
  · have h := Option.some.inj h; rw [← h]; first | rfl | (unfold tendrilref06_New_L12; rfl)
  · cases h
set_option maxHeartbeats 0 in
set_option maxRecDepth 5000000 in
theorem tendrilref06_New_z12x1 (vs : List SV) (bs : List Blk) (q : Option ((Int × (List Int)) × Int)) (h : tendrilref06_New_P12v1 0 vs bs = some q) : q = none := by
  unfold tendrilref06_New_P12v1 at h; split at h
  · have h := Option.some.inj h; rw [← h]; first | rfl | (unfold tendrilref06_New_L12x1; rfl)
  · cases h
theorem tendrilref06_New_Λ0 (L : Nat) (vs : List SV) (bs : List Blk) : tendrilref06_New_Λ 0 L vs bs = none := by
  unfold tendrilref06_New_Λ
  split
  · unfold tendrilref06_New_P12
    split
    · rename_i q hq; exact tendrilref06_New_z12 _ _ q hq
    split
    · rename_i q hq; exact tendrilref06_New_z12x1 _ _ q hq
    rfl
  rfl
set_option maxRecDepth 5000000 in
theorem tendrilref06_New_run (K : Nat) (x : Tup [⟨false, .int⟩]) : (pxFn Try.prog (lkΓ []) [(12, [2, 4, 13, 14])] Try.f43 (bodyOf Try.f43) true [⟨true, (.pair .int (.sl .int))⟩, ⟨false, .int⟩] (encTup [⟨false, .int⟩] x)).run (tendrilref06_New_Λ K) = tendrilref06_New_K K x := by kernel_rfl
set_option maxHeartbeats 0 in
set_option maxRecDepth 5000000 in
def pool_Reclaim_P14v0 (k : Nat) (vs : List SV) (bs : List Blk) : Option (Option ((List Int × List Int × List Int × List Int) × Int)) := match vs, bs with
  | [.val (.one (.int .i64 p0)), .val (.one (.ptr 0 0)), .val (.one (.ptr 1 0)), .val (.one (.int .i64 p1)), .val (.one (.row 2)), .val (.one (.int .i64 p2)), .val (.one (.int .i64 p3))], [.box [(.row 3), (.row 2), (.row 4), (.row 5)], .box [.nil, .nil, .nil, .nil], .row .int p4, .row .int p5, .row .int p6, .row .int p7] => some (pool_Reclaim_L14 k p0 p1 p2 p3 p4 p5 p6 p7)
  | _, _ => none
def pool_Reclaim_P14 (k : Nat) (vs : List SV) (bs : List Blk) : Option ((List Int × List Int × List Int × List Int) × Int) := match pool_Reclaim_P14v0 k vs bs with | some r => r | none => none
def pool_Reclaim_Λ (k L : Nat) (vs : List SV) (bs : List Blk) : Option ((List Int × List Int × List Int × List Int) × Int) := match Nat.beq L 14 with | true => pool_Reclaim_P14 k vs bs | false => none
noncomputable def pool_Reclaim_C : List (Cut (Tup [⟨true, (.pair (.sl .int) (.pair (.sl .int) (.pair (.sl .int) (.sl .int))))⟩, ⟨false, .int⟩])) := cuts Try.prog (lkΓ [(61, pool_Check_S), (84, pool_own_S)]) Try.f82.ntmps [(14, [1, 2, 4, 6, 19, 20, 21])] (bodyOf Try.f82) (κ0 Try.prog Try.f82 true [⟨true, (.pair (.sl .int) (.pair (.sl .int) (.pair (.sl .int) (.sl .int))))⟩, ⟨false, .int⟩])
set_option maxRecDepth 5000000 in
theorem pool_Reclaim_c14 (k : Nat) (p0 : Int) (p1 : Int) (p2 : Int) (p3 : Int) (p4 : List Int) (p5 : List Int) (p6 : List Int) (p7 : List Int) : ((nthC pool_Reclaim_C 0).g (mkSt [1, 2, 4, 6, 19, 20, 21] [.val (.one (.int .i64 p0)), .val (.one (.ptr 0 0)), .val (.one (.ptr 1 0)), .val (.one (.int .i64 p1)), .val (.one (.row 2)), .val (.one (.int .i64 p2)), .val (.one (.int .i64 p3))] [.box [(.row 3), (.row 2), (.row 4), (.row 5)], .box [.nil, .nil, .nil, .nil], .row .int p4, .row .int p5, .row .int p6, .row .int p7])).run (pool_Reclaim_Λ k) = pool_Reclaim_L14 (k + 1) p0 p1 p2 p3 p4 p5 p6 p7 := by kernel_rfl
set_option maxHeartbeats 0 in
set_option maxRecDepth 5000000 in
theorem pool_Reclaim_e14 (k : Nat) (vs : List SV) (bs : List Blk) (r : ((List Int) × ((List Int) × ((List Int) × (List Int)))) × Int) (h : pool_Reclaim_P14v0 (k + 1) vs bs = some (some r)) : ((nthC pool_Reclaim_C 0).g (mkSt [1, 2, 4, 6, 19, 20, 21] vs bs)).run (pool_Reclaim_Λ k) = some r := by
  unfold pool_Reclaim_P14v0 at h
  split at h
  · exact (pool_Reclaim_c14 k _ _ _ _ _ _ _ _).trans (Option.some.inj h)
  · cases h
theorem pool_Reclaim_d14 : CutOk pool_Reclaim_Λ (nthC pool_Reclaim_C 0) := by
  refine cutOk_of (L := 14) (live := [1, 2, 4, 6, 19, 20, 21]) (by kernel_rfl) (by kernel_rfl) fun k vs bs r h => ?_
  change pool_Reclaim_P14 (k + 1) vs bs = some r at h
  unfold pool_Reclaim_P14 at h
  split at h
  · rename_i q hq
    exact pool_Reclaim_e14 k vs bs r (hq.trans (congrArg some h))
  cases h
theorem pool_Reclaim_cuts : ∀ p ∈ cuts Try.prog (lkΓ [(61, pool_Check_S), (84, pool_own_S)]) Try.f82.ntmps [(14, [1, 2, 4, 6, 19, 20, 21])] (bodyOf Try.f82) (κ0 Try.prog Try.f82 true [⟨true, (.pair (.sl .int) (.pair (.sl .int) (.pair (.sl .int) (.sl .int))))⟩, ⟨false, .int⟩]), CutOk pool_Reclaim_Λ p := cutsOk (l := pool_Reclaim_C) (n := 1) (by kernel_rfl) fun
  | 0, _ => pool_Reclaim_d14
  | k + 1, h => absurd h (by omega)
set_option maxHeartbeats 0 in
set_option maxRecDepth 5000000 in
theorem pool_Reclaim_z14 (vs : List SV) (bs : List Blk) (q : Option (((List Int) × ((List Int) × ((List Int) × (List Int)))) × Int)) (h : pool_Reclaim_P14v0 0 vs bs = some q) : q = none := by
  unfold pool_Reclaim_P14v0 at h; split at h
  · have h := Option.some.inj h; rw [← h]; first | rfl | (unfold pool_Reclaim_L14; rfl)
  · cases h
theorem pool_Reclaim_Λ0 (L : Nat) (vs : List SV) (bs : List Blk) : pool_Reclaim_Λ 0 L vs bs = none := by
  unfold pool_Reclaim_Λ
  split
  · unfold pool_Reclaim_P14
    split
    · rename_i q hq; exact pool_Reclaim_z14 _ _ q hq
    rfl
  rfl
set_option maxRecDepth 5000000 in
theorem pool_Reclaim_run (K : Nat) (x : Tup [⟨true, (.pair (.sl .int) (.pair (.sl .int) (.pair (.sl .int) (.sl .int))))⟩, ⟨false, .int⟩]) : (pxFn Try.prog (lkΓ [(61, pool_Check_S), (84, pool_own_S)]) [(14, [1, 2, 4, 6, 19, 20, 21])] Try.f82 (bodyOf Try.f82) true [⟨true, (.pair (.sl .int) (.pair (.sl .int) (.pair (.sl .int) (.sl .int))))⟩, ⟨false, .int⟩] (encTup [⟨true, (.pair (.sl .int) (.pair (.sl .int) (.pair (.sl .int) (.sl .int))))⟩, ⟨false, .int⟩] x)).run (pool_Reclaim_Λ K) = pool_Reclaim_K K x := by kernel_rfl
set_option maxHeartbeats 0 in
set_option maxRecDepth 5000000 in
def pool_New_P12v0 (k : Nat) (vs : List SV) (bs : List Blk) : Option (Option ((List Int × List Int × List Int × List Int) × Int)) := match vs, bs with
  | [.val (.one (.ptr 0 0)), .val (.one (.ptr 1 0)), .val (.one (.int .i64 p0)), .val (.one (.int .i64 p1))], [.box [.nil, .nil, .nil, .nil], .box [(.row 2), (.row 3), (.row 4), (.row 5)], .row .int p2, .row .int p3, .row .int p4, .row .int p5] => some (pool_New_L12 k p0 p1 p2 p3 p4 p5)
  | _, _ => none
def pool_New_P12 (k : Nat) (vs : List SV) (bs : List Blk) : Option ((List Int × List Int × List Int × List Int) × Int) := match pool_New_P12v0 k vs bs with | some r => r | none => none
def pool_New_Λ (k L : Nat) (vs : List SV) (bs : List Blk) : Option ((List Int × List Int × List Int × List Int) × Int) := match Nat.beq L 12 with | true => pool_New_P12 k vs bs | false => none
noncomputable def pool_New_C : List (Cut (Tup [⟨true, (.pair (.sl .int) (.pair (.sl .int) (.pair (.sl .int) (.sl .int))))⟩, ⟨false, .int⟩])) := cuts Try.prog (lkΓ []) Try.f41.ntmps [(12, [2, 4, 24, 25])] (bodyOf Try.f41) (κ0 Try.prog Try.f41 true [⟨true, (.pair (.sl .int) (.pair (.sl .int) (.pair (.sl .int) (.sl .int))))⟩, ⟨false, .int⟩])
set_option maxRecDepth 5000000 in
theorem pool_New_c12 (k : Nat) (p0 : Int) (p1 : Int) (p2 : List Int) (p3 : List Int) (p4 : List Int) (p5 : List Int) : ((nthC pool_New_C 0).g (mkSt [2, 4, 24, 25] [.val (.one (.ptr 0 0)), .val (.one (.ptr 1 0)), .val (.one (.int .i64 p0)), .val (.one (.int .i64 p1))] [.box [.nil, .nil, .nil, .nil], .box [(.row 2), (.row 3), (.row 4), (.row 5)], .row .int p2, .row .int p3, .row .int p4, .row .int p5])).run (pool_New_Λ k) = pool_New_L12 (k + 1) p0 p1 p2 p3 p4 p5 := by kernel_rfl
set_option maxHeartbeats 0 in
set_option maxRecDepth 5000000 in
theorem pool_New_e12 (k : Nat) (vs : List SV) (bs : List Blk) (r : ((List Int) × ((List Int) × ((List Int) × (List Int)))) × Int) (h : pool_New_P12v0 (k + 1) vs bs = some (some r)) : ((nthC pool_New_C 0).g (mkSt [2, 4, 24, 25] vs bs)).run (pool_New_Λ k) = some r := by
  unfold pool_New_P12v0 at h
  split at h
  · exact (pool_New_c12 k _ _ _ _ _ _).trans (Option.some.inj h)
  · cases h
theorem pool_New_d12 : CutOk pool_New_Λ (nthC pool_New_C 0) := by
  refine cutOk_of (L := 12) (live := [2, 4, 24, 25]) (by kernel_rfl) (by kernel_rfl) fun k vs bs r h => ?_
  change pool_New_P12 (k + 1) vs bs = some r at h
  unfold pool_New_P12 at h
  split at h
  · rename_i q hq
    exact pool_New_e12 k vs bs r (hq.trans (congrArg some h))
  cases h
theorem pool_New_cuts : ∀ p ∈ cuts Try.prog (lkΓ []) Try.f41.ntmps [(12, [2, 4, 24, 25])] (bodyOf Try.f41) (κ0 Try.prog Try.f41 true [⟨true, (.pair (.sl .int) (.pair (.sl .int) (.pair (.sl .int) (.sl .int))))⟩, ⟨false, .int⟩]), CutOk pool_New_Λ p := cutsOk (l := pool_New_C) (n := 1) (by kernel_rfl) fun
  | 0, _ => pool_New_d12
  | k + 1, h => absurd h (by omega)
set_option maxHeartbeats 0 in
set_option maxRecDepth 5000000 in
theorem pool_New_z12 (vs : List SV) (bs : List Blk) (q : Option (((List Int) × ((List Int) × ((List Int) × (List Int)))) × Int)) (h : pool_New_P12v0 0 vs bs = some q) : q = none := by
  unfold pool_New_P12v0 at h; split at h
  · have h := Option.some.inj h; rw [← h]; first | rfl | (unfold pool_New_L12; rfl)
  · cases h
theorem pool_New_Λ0 (L : Nat) (vs : List SV) (bs : List Blk) : pool_New_Λ 0 L vs bs = none := by
  unfold pool_New_Λ
  split
  · unfold pool_New_P12
    split
    · rename_i q hq; exact pool_New_z12 _ _ q hq
    rfl
  rfl
set_option maxRecDepth 5000000 in
theorem pool_New_run (K : Nat) (x : Tup [⟨false, .int⟩]) : (pxFn Try.prog (lkΓ []) [(12, [2, 4, 24, 25])] Try.f41 (bodyOf Try.f41) true [⟨true, (.pair (.sl .int) (.pair (.sl .int) (.pair (.sl .int) (.sl .int))))⟩, ⟨false, .int⟩] (encTup [⟨false, .int⟩] x)).run (pool_New_Λ K) = pool_New_K K x := by kernel_rfl
set_option maxHeartbeats 0 in
set_option maxRecDepth 5000000 in
def slices_Index_P6v0 (k : Nat) (vs : List SV) (bs : List Blk) : Option (Option (Int)) := match vs, bs with
  | [.val (.one (.sl .bool p0)), .val (.one (.bool p1)), .val (.one (.int .i64 p2)), .val (.one (.int .i64 p3))], [] => some (slices_Index_L6 k p0 p1 p2 p3)
  | _, _ => none
def slices_Index_P6 (k : Nat) (vs : List SV) (bs : List Blk) : Option (Int) := match slices_Index_P6v0 k vs bs with | some r => r | none => none
def slices_Index_Λ (k L : Nat) (vs : List SV) (bs : List Blk) : Option (Int) := match Nat.beq L 6 with | true => slices_Index_P6 k vs bs | false => none
noncomputable def slices_Index_C : List (Cut (Tup [⟨false, .int⟩])) := cuts Try.prog (lkΓ []) Try.f86.ntmps [(6, [0, 1, 7, 8])] (bodyOf Try.f86) (κ0 Try.prog Try.f86 false [⟨false, .int⟩])
set_option maxRecDepth 5000000 in
theorem slices_Index_c6 (k : Nat) (p0 : List Bool) (p1 : Bool) (p2 : Int) (p3 : Int) : ((nthC slices_Index_C 0).g (mkSt [0, 1, 7, 8] [.val (.one (.sl .bool p0)), .val (.one (.bool p1)), .val (.one (.int .i64 p2)), .val (.one (.int .i64 p3))] [])).run (slices_Index_Λ k) = slices_Index_L6 (k + 1) p0 p1 p2 p3 := by kernel_rfl
set_option maxHeartbeats 0 in
set_option maxRecDepth 5000000 in
theorem slices_Index_e6 (k : Nat) (vs : List SV) (bs : List Blk) (r : Int) (h : slices_Index_P6v0 (k + 1) vs bs = some (some r)) : ((nthC slices_Index_C 0).g (mkSt [0, 1, 7, 8] vs bs)).run (slices_Index_Λ k) = some r := by
  unfold slices_Index_P6v0 at h
  split at h
  · exact (slices_Index_c6 k _ _ _ _).trans (Option.some.inj h)
  · cases h
theorem slices_Index_d6 : CutOk slices_Index_Λ (nthC slices_Index_C 0) := by
  refine cutOk_of (L := 6) (live := [0, 1, 7, 8]) (by kernel_rfl) (by kernel_rfl) fun k vs bs r h => ?_
  change slices_Index_P6 (k + 1) vs bs = some r at h
  unfold slices_Index_P6 at h
  split at h
  · rename_i q hq
    exact slices_Index_e6 k vs bs r (hq.trans (congrArg some h))
  cases h
theorem slices_Index_cuts : ∀ p ∈ cuts Try.prog (lkΓ []) Try.f86.ntmps [(6, [0, 1, 7, 8])] (bodyOf Try.f86) (κ0 Try.prog Try.f86 false [⟨false, .int⟩]), CutOk slices_Index_Λ p := cutsOk (l := slices_Index_C) (n := 1) (by kernel_rfl) fun
  | 0, _ => slices_Index_d6
  | k + 1, h => absurd h (by omega)
set_option maxHeartbeats 0 in
set_option maxRecDepth 5000000 in
theorem slices_Index_z6 (vs : List SV) (bs : List Blk) (q : Option (Int)) (h : slices_Index_P6v0 0 vs bs = some q) : q = none := by
  unfold slices_Index_P6v0 at h; split at h
  · have h := Option.some.inj h; rw [← h]; first | rfl | (unfold slices_Index_L6; rfl)
  · cases h
theorem slices_Index_Λ0 (L : Nat) (vs : List SV) (bs : List Blk) : slices_Index_Λ 0 L vs bs = none := by
  unfold slices_Index_Λ
  split
  · unfold slices_Index_P6
    split
    · rename_i q hq; exact slices_Index_z6 _ _ q hq
    rfl
  rfl
set_option maxRecDepth 5000000 in
theorem slices_Index_run (K : Nat) (x : Tup [⟨false, (.sl .bool)⟩, ⟨false, .bool⟩]) : (pxFn Try.prog (lkΓ []) [(6, [0, 1, 7, 8])] Try.f86 (bodyOf Try.f86) false [⟨false, .int⟩] (encTup [⟨false, (.sl .bool)⟩, ⟨false, .bool⟩] x)).run (slices_Index_Λ K) = slices_Index_K K x := by kernel_rfl
set_option maxRecDepth 5000000 in
theorem arena_Pin_run (x : Tup [⟨true, (.pair (.sl .int) (.pair (.sl .int) (.pair (.pair (.pair (.sl .int) (.pair (.sl .int) (.pair (.sl .int) (.sl .int)))) (.pair (.pair (.sl .int) (.pair (.sl .int) (.pair (.sl .int) (.sl .int)))) (.pair (.sl .int) (.pair (.sl .int) (.pair (.sl .int) (.sl .int)))))) (.pair .int (.sl .int)))))⟩, ⟨false, .int⟩]) : (pxFn Try.prog (lkΓ [(69, arena_may_S), (70, era_Pin_S)]) [] Try.f57 (bodyOf Try.f57) false [⟨true, (.pair (.sl .int) (.pair (.sl .int) (.pair (.pair (.pair (.sl .int) (.pair (.sl .int) (.pair (.sl .int) (.sl .int)))) (.pair (.pair (.sl .int) (.pair (.sl .int) (.pair (.sl .int) (.sl .int)))) (.pair (.sl .int) (.pair (.sl .int) (.pair (.sl .int) (.sl .int)))))) (.pair .int (.sl .int)))))⟩, ⟨false, .int⟩] (encTup [⟨true, (.pair (.sl .int) (.pair (.sl .int) (.pair (.pair (.pair (.sl .int) (.pair (.sl .int) (.pair (.sl .int) (.sl .int)))) (.pair (.pair (.sl .int) (.pair (.sl .int) (.pair (.sl .int) (.sl .int)))) (.pair (.sl .int) (.pair (.sl .int) (.pair (.sl .int) (.sl .int)))))) (.pair .int (.sl .int)))))⟩, ⟨false, .int⟩] x)).run (fun _ _ _ => none) = arena_Pin x := by kernel_rfl
theorem arena_Pin_cuts : ∀ p ∈ cuts Try.prog (lkΓ [(69, arena_may_S), (70, era_Pin_S)]) Try.f57.ntmps [] (bodyOf Try.f57) (κ0 Try.prog Try.f57 false [⟨true, (.pair (.sl .int) (.pair (.sl .int) (.pair (.pair (.pair (.sl .int) (.pair (.sl .int) (.pair (.sl .int) (.sl .int)))) (.pair (.pair (.sl .int) (.pair (.sl .int) (.pair (.sl .int) (.sl .int)))) (.pair (.sl .int) (.pair (.sl .int) (.pair (.sl .int) (.sl .int)))))) (.pair .int (.sl .int)))))⟩, ⟨false, .int⟩]), CutOk (fun _ _ _ _ => none) p := cutsNil (by kernel_rfl)
set_option maxRecDepth 5000000 in
theorem tendrilref15_New_run (x : Tup [⟨true, (.pair .int (.pair .int (.pair .int (.pair .int .int))))⟩, ⟨false, .int⟩]) : (pxFn Try.prog (lkΓ [(24, tendrilref07_New_S), (25, tendrilref03_New_S)]) [] Try.f11 (bodyOf Try.f11) true [⟨true, (.pair (.sl .int) (.pair (.sl .int) (.pair (.pair (.pair (.sl .int) (.pair (.sl .int) (.pair (.sl .int) (.sl .int)))) (.pair (.pair (.sl .int) (.pair (.sl .int) (.pair (.sl .int) (.sl .int)))) (.pair (.sl .int) (.pair (.sl .int) (.pair (.sl .int) (.sl .int)))))) (.pair .int (.sl .int)))))⟩, ⟨false, .int⟩] (encTup [⟨true, (.pair .int (.pair .int (.pair .int (.pair .int .int))))⟩, ⟨false, .int⟩] x)).run (fun _ _ _ => none) = tendrilref15_New x := by kernel_rfl
theorem tendrilref15_New_cuts : ∀ p ∈ cuts Try.prog (lkΓ [(24, tendrilref07_New_S), (25, tendrilref03_New_S)]) Try.f11.ntmps [] (bodyOf Try.f11) (κ0 Try.prog Try.f11 true [⟨true, (.pair (.sl .int) (.pair (.sl .int) (.pair (.pair (.pair (.sl .int) (.pair (.sl .int) (.pair (.sl .int) (.sl .int)))) (.pair (.pair (.sl .int) (.pair (.sl .int) (.pair (.sl .int) (.sl .int)))) (.pair (.sl .int) (.pair (.sl .int) (.pair (.sl .int) (.sl .int)))))) (.pair .int (.sl .int)))))⟩, ⟨false, .int⟩]), CutOk (fun _ _ _ _ => none) p := cutsNil (by kernel_rfl)
set_option maxRecDepth 5000000 in
theorem place_kinds_run (x : Tup [⟨true, (.pair .int (.pair .int (.pair .int (.pair .int .int))))⟩]) : (pxFn Try.prog (lkΓ []) [] Try.f63 (bodyOf Try.f63) false [⟨true, (.pair (.pair .int (.pair .int .int)) (.pair (.pair .int (.pair .int .int)) (.pair (.pair .int (.pair .int .int)) (.pair (.pair .int (.pair .int .int)) (.pair .int (.pair .int .int))))))⟩] (encTup [⟨true, (.pair .int (.pair .int (.pair .int (.pair .int .int))))⟩] x)).run (fun _ _ _ => none) = place_kinds x := by kernel_rfl
theorem place_kinds_cuts : ∀ p ∈ cuts Try.prog (lkΓ []) Try.f63.ntmps [] (bodyOf Try.f63) (κ0 Try.prog Try.f63 false [⟨true, (.pair (.pair .int (.pair .int .int)) (.pair (.pair .int (.pair .int .int)) (.pair (.pair .int (.pair .int .int)) (.pair (.pair .int (.pair .int .int)) (.pair .int (.pair .int .int))))))⟩]), CutOk (fun _ _ _ _ => none) p := cutsNil (by kernel_rfl)
set_option maxRecDepth 5000000 in
theorem pool_own_run (x : Tup [⟨true, (.pair (.sl .int) (.pair (.sl .int) (.pair (.sl .int) (.sl .int))))⟩]) : (pxFn Try.prog (lkΓ [(68, slices_Clone_S)]) [] Try.f84 (bodyOf Try.f84) true [⟨true, (.pair (.sl .int) (.pair (.sl .int) (.pair (.sl .int) (.sl .int))))⟩] (encTup [⟨true, (.pair (.sl .int) (.pair (.sl .int) (.pair (.sl .int) (.sl .int))))⟩] x)).run (fun _ _ _ => none) = pool_own x := by kernel_rfl
theorem pool_own_cuts : ∀ p ∈ cuts Try.prog (lkΓ [(68, slices_Clone_S)]) Try.f84.ntmps [] (bodyOf Try.f84) (κ0 Try.prog Try.f84 true [⟨true, (.pair (.sl .int) (.pair (.sl .int) (.pair (.sl .int) (.sl .int))))⟩]), CutOk (fun _ _ _ _ => none) p := cutsNil (by kernel_rfl)
set_option maxRecDepth 5000000 in
theorem place_New_run (x : Tup [⟨true, (.pair .int (.pair .int (.pair .int (.pair .int .int))))⟩]) : (pxFn Try.prog (lkΓ [(34, place_Check_S), (36, place_Size_S), (42, mem_New_S)]) [] Try.f23 (bodyOf Try.f23) true [⟨false, (.sl .int)⟩, ⟨false, .int⟩] (encTup [⟨true, (.pair .int (.pair .int (.pair .int (.pair .int .int))))⟩] x)).run (fun _ _ _ => none) = place_New x := by kernel_rfl
theorem place_New_cuts : ∀ p ∈ cuts Try.prog (lkΓ [(34, place_Check_S), (36, place_Size_S), (42, mem_New_S)]) Try.f23.ntmps [] (bodyOf Try.f23) (κ0 Try.prog Try.f23 true [⟨false, (.sl .int)⟩, ⟨false, .int⟩]), CutOk (fun _ _ _ _ => none) p := cutsNil (by kernel_rfl)
set_option maxRecDepth 5000000 in
theorem tendrilref06_Same_run (x : Tup [⟨true, (.pair .int (.sl .int))⟩, ⟨true, (.pair .int (.sl .int))⟩]) : (pxFn Try.prog (lkΓ [(26, tendrilref02_Same_S)]) [] Try.f16 (bodyOf Try.f16) false [⟨false, .bool⟩] (encTup [⟨true, (.pair .int (.sl .int))⟩, ⟨true, (.pair .int (.sl .int))⟩] x)).run (fun _ _ _ => none) = tendrilref06_Same x := by kernel_rfl
theorem tendrilref06_Same_cuts : ∀ p ∈ cuts Try.prog (lkΓ [(26, tendrilref02_Same_S)]) Try.f16.ntmps [] (bodyOf Try.f16) (κ0 Try.prog Try.f16 false [⟨false, .bool⟩]), CutOk (fun _ _ _ _ => none) p := cutsNil (by kernel_rfl)
set_option maxRecDepth 5000000 in
theorem era_Check_run (x : Tup [⟨true, (.pair .int (.sl .int))⟩]) : (pxFn Try.prog (lkΓ [(77000037, slices_ContainsFunc_era_Check_1_S)]) [] Try.f62 (bodyOf Try.f62) false [⟨false, .int⟩] (encTup [⟨true, (.pair .int (.sl .int))⟩] x)).run (fun _ _ _ => none) = era_Check x := by kernel_rfl
theorem era_Check_cuts : ∀ p ∈ cuts Try.prog (lkΓ [(77000037, slices_ContainsFunc_era_Check_1_S)]) Try.f62.ntmps [] (bodyOf Try.f62) (κ0 Try.prog Try.f62 false [⟨false, .int⟩]), CutOk (fun _ _ _ _ => none) p := cutsNil (by kernel_rfl)
set_option maxRecDepth 5000000 in
theorem mem_Load_run (x : Tup [⟨false, (.sl .int)⟩, ⟨false, .int⟩]) : (pxFn Try.prog (lkΓ [(67, mem_in_S)]) [] Try.f50 (bodyOf Try.f50) false [⟨false, .int⟩, ⟨false, .int⟩] (encTup [⟨false, (.sl .int)⟩, ⟨false, .int⟩] x)).run (fun _ _ _ => none) = mem_Load x := by kernel_rfl
theorem mem_Load_cuts : ∀ p ∈ cuts Try.prog (lkΓ [(67, mem_in_S)]) Try.f50.ntmps [] (bodyOf Try.f50) (κ0 Try.prog Try.f50 false [⟨false, .int⟩, ⟨false, .int⟩]), CutOk (fun _ _ _ _ => none) p := cutsNil (by kernel_rfl)
set_option maxRecDepth 5000000 in
theorem shape_Check_1_run (x : Tup [⟨false, .int⟩]) : (pxFn Try.prog (lkΓ [(39, latch_Check_S)]) [] Try.f38 (bodyOf Try.f38) false [⟨false, .bool⟩] (encTup [⟨false, .int⟩] x)).run (fun _ _ _ => none) = shape_Check_1 x := by kernel_rfl
theorem shape_Check_1_cuts : ∀ p ∈ cuts Try.prog (lkΓ [(39, latch_Check_S)]) Try.f38.ntmps [] (bodyOf Try.f38) (κ0 Try.prog Try.f38 false [⟨false, .bool⟩]), CutOk (fun _ _ _ _ => none) p := cutsNil (by kernel_rfl)
set_option maxRecDepth 5000000 in
theorem latch_Check_run (x : Tup [⟨false, .int⟩]) : (pxFn Try.prog (lkΓ []) [] Try.f39 (bodyOf Try.f39) false [⟨false, .int⟩] (encTup [⟨false, .int⟩] x)).run (fun _ _ _ => none) = latch_Check x := by kernel_rfl
theorem latch_Check_cuts : ∀ p ∈ cuts Try.prog (lkΓ []) Try.f39.ntmps [] (bodyOf Try.f39) (κ0 Try.prog Try.f39 false [⟨false, .int⟩]), CutOk (fun _ _ _ _ => none) p := cutsNil (by kernel_rfl)
end Go.Proofs.YtcoiboghdmmdcadFn
