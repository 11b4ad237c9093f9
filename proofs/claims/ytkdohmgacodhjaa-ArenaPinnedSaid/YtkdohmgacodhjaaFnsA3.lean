/- What the interpreter of code computes of these functions, part 3; no condition. -/
import Derived.Test.YtkdohmgacodhjaaProg
import Derived.KernelRfl
import Derived.Test.YtkdohmgacodhjaaPx25
import Derived.Test.YtkdohmgacodhjaaFnsD
set_option linter.unusedVariables false
set_option linter.unusedSimpArgs false
namespace Go.Proofs.YtkdohmgacodhjaaFn
open Go Go.RowKit Go.Proofs.YtkdohmgacodhjaaPx
set_option maxHeartbeats 0 in
set_option maxRecDepth 5000000 in
def pool_Check_P14v0 (k : Nat) (vs : List SV) (bs : List Blk) : Option (Option (Int)) := match vs, bs with
  | [.val (.one (.ptr 0 0)), .val (.one (.int .i64 p0)), .val (.one (.row 1)), .val (.one (.sl .int p1)), .val (.one (.int .i64 p2)), .val (.one (.int .i64 p3))], [.box [(.sl .int p4), (.sl .int p5), (.sl .int p6), (.sl .int p7)], .row .bool p8] => some (pool_Check_L14 k p0 p1 p2 p3 p4 p5 p6 p7 p8)
  | _, _ => none
set_option maxHeartbeats 0 in
set_option maxRecDepth 5000000 in
def pool_Check_P28v0 (k : Nat) (vs : List SV) (bs : List Blk) : Option (Option (Int)) := match vs, bs with
  | [.val (.one (.int .i64 p0)), .val (.one (.row 0)), .val (.one (.sl .int p1)), .val (.one (.int .i64 p2)), .val (.one (.int .i64 p3))], [.row .bool p4] => some (pool_Check_L28 k p0 p1 p2 p3 p4)
  | _, _ => none
def pool_Check_P14 (k : Nat) (vs : List SV) (bs : List Blk) : Option (Int) := match pool_Check_P14v0 k vs bs with | some r => r | none => none
def pool_Check_P28 (k : Nat) (vs : List SV) (bs : List Blk) : Option (Int) := match pool_Check_P28v0 k vs bs with | some r => r | none => none
def pool_Check_Λ (k L : Nat) (vs : List SV) (bs : List Blk) : Option (Int) := match Nat.beq L 14 with | true => pool_Check_P14 k vs bs | false => match Nat.beq L 28 with | true => pool_Check_P28 k vs bs | false => none
noncomputable def pool_Check_C : List (Cut (Tup [⟨false, .int⟩])) := cuts Try.prog (lkΓ [(35, slices_Contains_S)]) Try.f25.ntmps [(28, [3, 4, 83, 84, 85]), (14, [1, 3, 4, 35, 36, 37])] (bodyOf Try.f25) (κ0 Try.prog Try.f25 false [⟨false, .int⟩])
set_option maxRecDepth 5000000 in
theorem pool_Check_c14 (k : Nat) (p0 : Int) (p1 : List Int) (p2 : Int) (p3 : Int) (p4 : List Int) (p5 : List Int) (p6 : List Int) (p7 : List Int) (p8 : List Bool) : ((nthC pool_Check_C 0).g (mkSt [1, 3, 4, 35, 36, 37] [.val (.one (.ptr 0 0)), .val (.one (.int .i64 p0)), .val (.one (.row 1)), .val (.one (.sl .int p1)), .val (.one (.int .i64 p2)), .val (.one (.int .i64 p3))] [.box [(.sl .int p4), (.sl .int p5), (.sl .int p6), (.sl .int p7)], .row .bool p8])).run (pool_Check_Λ k) = pool_Check_L14 (k + 1) p0 p1 p2 p3 p4 p5 p6 p7 p8 := by kernel_rfl
set_option maxHeartbeats 0 in
set_option maxRecDepth 5000000 in
theorem pool_Check_e14 (k : Nat) (vs : List SV) (bs : List Blk) (r : Int) (h : pool_Check_P14v0 (k + 1) vs bs = some (some r)) : ((nthC pool_Check_C 0).g (mkSt [1, 3, 4, 35, 36, 37] vs bs)).run (pool_Check_Λ k) = some r := by
  unfold pool_Check_P14v0 at h
  split at h
  · exact (pool_Check_c14 k _ _ _ _ _ _ _ _ _).trans (Option.some.inj h)
  · cases h
set_option maxRecDepth 5000000 in
theorem pool_Check_c28 (k : Nat) (p0 : Int) (p1 : List Int) (p2 : Int) (p3 : Int) (p4 : List Bool) : ((nthC pool_Check_C 1).g (mkSt [3, 4, 83, 84, 85] [.val (.one (.int .i64 p0)), .val (.one (.row 0)), .val (.one (.sl .int p1)), .val (.one (.int .i64 p2)), .val (.one (.int .i64 p3))] [.row .bool p4])).run (pool_Check_Λ k) = pool_Check_L28 (k + 1) p0 p1 p2 p3 p4 := by kernel_rfl
set_option maxHeartbeats 0 in
set_option maxRecDepth 5000000 in
theorem pool_Check_e28 (k : Nat) (vs : List SV) (bs : List Blk) (r : Int) (h : pool_Check_P28v0 (k + 1) vs bs = some (some r)) : ((nthC pool_Check_C 1).g (mkSt [3, 4, 83, 84, 85] vs bs)).run (pool_Check_Λ k) = some r := by
  unfold pool_Check_P28v0 at h
  split at h
  · exact (pool_Check_c28 k _ _ _ _ _).trans (Option.some.inj h)
  · cases h
theorem pool_Check_d14 : CutOk pool_Check_Λ (nthC pool_Check_C 0) := by
  refine cutOk_of (L := 14) (live := [1, 3, 4, 35, 36, 37]) (by kernel_rfl) (by kernel_rfl) fun k vs bs r h => ?_
  change pool_Check_P14 (k + 1) vs bs = some r at h
  unfold pool_Check_P14 at h
  split at h
  · rename_i q hq
    exact pool_Check_e14 k vs bs r (hq.trans (congrArg some h))
  cases h
theorem pool_Check_d28 : CutOk pool_Check_Λ (nthC pool_Check_C 1) := by
  refine cutOk_of (L := 28) (live := [3, 4, 83, 84, 85]) (by kernel_rfl) (by kernel_rfl) fun k vs bs r h => ?_
  change pool_Check_P28 (k + 1) vs bs = some r at h
  unfold pool_Check_P28 at h
  split at h
  · rename_i q hq
    exact pool_Check_e28 k vs bs r (hq.trans (congrArg some h))
  cases h
theorem pool_Check_cuts : ∀ p ∈ cuts Try.prog (lkΓ [(35, slices_Contains_S)]) Try.f25.ntmps [(28, [3, 4, 83, 84, 85]), (14, [1, 3, 4, 35, 36, 37])] (bodyOf Try.f25) (κ0 Try.prog Try.f25 false [⟨false, .int⟩]), CutOk pool_Check_Λ p := cutsOk (l := pool_Check_C) (n := 2) (by kernel_rfl) fun
  | 0, _ => pool_Check_d14
  | 1, _ => pool_Check_d28
  | k + 2, h => absurd h (by omega)
set_option maxHeartbeats 0 in
set_option maxRecDepth 5000000 in
theorem pool_Check_z14 (vs : List SV) (bs : List Blk) (q : Option (Int)) (h : pool_Check_P14v0 0 vs bs = some q) : q = none := by
  unfold pool_Check_P14v0 at h; split at h
  · have h := Option.some.inj h; rw [← h]; first | rfl | (unfold pool_Check_L14; rfl)
  · cases h
set_option maxHeartbeats 0 in
set_option maxRecDepth 5000000 in
theorem pool_Check_z28 (vs : List SV) (bs : List Blk) (q : Option (Int)) (h : pool_Check_P28v0 0 vs bs = some q) : q = none := by
  unfold pool_Check_P28v0 at h; split at h
  · have h := Option.some.inj h; rw [← h]; first | rfl | (unfold pool_Check_L28; rfl)
  · cases h
theorem pool_Check_Λ0 (L : Nat) (vs : List SV) (bs : List Blk) : pool_Check_Λ 0 L vs bs = none := by
  unfold pool_Check_Λ
  split
  · unfold pool_Check_P14
    split
    · rename_i q hq; exact pool_Check_z14 _ _ q hq
    rfl
  split
  · unfold pool_Check_P28
    split
    · rename_i q hq; exact pool_Check_z28 _ _ q hq
    rfl
  rfl
set_option maxRecDepth 5000000 in
theorem pool_Check_run (K : Nat) (x : Tup [⟨true, (.pair (.sl .int) (.pair (.sl .int) (.pair (.sl .int) (.sl .int))))⟩]) : (pxFn Try.prog (lkΓ [(35, slices_Contains_S)]) [(28, [3, 4, 83, 84, 85]), (14, [1, 3, 4, 35, 36, 37])] Try.f25 (bodyOf Try.f25) false [⟨false, .int⟩] (encTup [⟨true, (.pair (.sl .int) (.pair (.sl .int) (.pair (.sl .int) (.sl .int))))⟩] x)).run (pool_Check_Λ K) = pool_Check_K K x := by kernel_rfl
set_option maxHeartbeats 0 in
set_option maxRecDepth 5000000 in
def arena_Check_P6v0 (k : Nat) (vs : List SV) (bs : List Blk) : Option (Option (Int)) := match vs, bs with
  | [.val (.one (.ptr 0 0)), .val (.agg [(.sl .int p0), (.sl .int p1), (.sl .int p2), (.sl .int p3), (.sl .int p4), (.sl .int p5), (.sl .int p6), (.sl .int p7), (.sl .int p8), (.sl .int p9), (.sl .int p10), (.sl .int p11)]), .val (.one (.int .i64 p12))], [.box [(.sl .int p13), (.sl .int p14), (.sl .int p15), (.sl .int p16), (.sl .int p17), (.sl .int p18), (.sl .int p19), (.sl .int p20), (.sl .int p21), (.sl .int p22), (.sl .int p23), (.sl .int p24), (.sl .int p25), (.sl .int p26), (.int .i64 p27), (.sl .int p28)]] => some (arena_Check_L6 k p0 p1 p2 p3 p4 p5 p6 p7 p8 p9 p10 p11 p12 p13 p14 p15 p16 p17 p18 p19 p20 p21 p22 p23 p24 p25 p26 p27 p28)
  | _, _ => none
def arena_Check_P6 (k : Nat) (vs : List SV) (bs : List Blk) : Option (Int) := match arena_Check_P6v0 k vs bs with | some r => r | none => none
def arena_Check_Λ (k L : Nat) (vs : List SV) (bs : List Blk) : Option (Int) := match Nat.beq L 6 with | true => arena_Check_P6 k vs bs | false => none
noncomputable def arena_Check_C : List (Cut (Tup [⟨false, .int⟩])) := cuts Try.prog (lkΓ [(25, pool_Check_S), (26, era_Check_S)]) Try.f12.ntmps [(6, [1, 7, 8])] (bodyOf Try.f12) (κ0 Try.prog Try.f12 false [⟨false, .int⟩])
set_option maxRecDepth 5000000 in
theorem arena_Check_c6 (k : Nat) (p0 : List Int) (p1 : List Int) (p2 : List Int) (p3 : List Int) (p4 : List Int) (p5 : List Int) (p6 : List Int) (p7 : List Int) (p8 : List Int) (p9 : List Int) (p10 : List Int) (p11 : List Int) (p12 : Int) (p13 : List Int) (p14 : List Int) (p15 : List Int) (p16 : List Int) (p17 : List Int) (p18 : List Int) (p19 : List Int) (p20 : List Int) (p21 : List Int) (p22 : List Int) (p23 : List Int) (p24 : List Int) (p25 : List Int) (p26 : List Int) (p27 : Int) (p28 : List Int) : ((nthC arena_Check_C 0).g (mkSt [1, 7, 8] [.val (.one (.ptr 0 0)), .val (.agg [(.sl .int p0), (.sl .int p1), (.sl .int p2), (.sl .int p3), (.sl .int p4), (.sl .int p5), (.sl .int p6), (.sl .int p7), (.sl .int p8), (.sl .int p9), (.sl .int p10), (.sl .int p11)]), .val (.one (.int .i64 p12))] [.box [(.sl .int p13), (.sl .int p14), (.sl .int p15), (.sl .int p16), (.sl .int p17), (.sl .int p18), (.sl .int p19), (.sl .int p20), (.sl .int p21), (.sl .int p22), (.sl .int p23), (.sl .int p24), (.sl .int p25), (.sl .int p26), (.int .i64 p27), (.sl .int p28)]])).run (arena_Check_Λ k) = arena_Check_L6 (k + 1) p0 p1 p2 p3 p4 p5 p6 p7 p8 p9 p10 p11 p12 p13 p14 p15 p16 p17 p18 p19 p20 p21 p22 p23 p24 p25 p26 p27 p28 := by kernel_rfl
set_option maxHeartbeats 0 in
set_option maxRecDepth 5000000 in
theorem arena_Check_e6 (k : Nat) (vs : List SV) (bs : List Blk) (r : Int) (h : arena_Check_P6v0 (k + 1) vs bs = some (some r)) : ((nthC arena_Check_C 0).g (mkSt [1, 7, 8] vs bs)).run (arena_Check_Λ k) = some r := by
  unfold arena_Check_P6v0 at h
  split at h
  · exact (arena_Check_c6 k _ _ _ _ _ _ _ _ _ _ _ _ _ _ _ _ _ _ _ _ _ _ _ _ _ _ _ _ _).trans (Option.some.inj h)
  · cases h
theorem arena_Check_d6 : CutOk arena_Check_Λ (nthC arena_Check_C 0) := by
  refine cutOk_of (L := 6) (live := [1, 7, 8]) (by kernel_rfl) (by kernel_rfl) fun k vs bs r h => ?_
  change arena_Check_P6 (k + 1) vs bs = some r at h
  unfold arena_Check_P6 at h
  split at h
  · rename_i q hq
    exact arena_Check_e6 k vs bs r (hq.trans (congrArg some h))
  cases h
theorem arena_Check_cuts : ∀ p ∈ cuts Try.prog (lkΓ [(25, pool_Check_S), (26, era_Check_S)]) Try.f12.ntmps [(6, [1, 7, 8])] (bodyOf Try.f12) (κ0 Try.prog Try.f12 false [⟨false, .int⟩]), CutOk arena_Check_Λ p := cutsOk (l := arena_Check_C) (n := 1) (by kernel_rfl) fun
  | 0, _ => arena_Check_d6
  | k + 1, h => absurd h (by omega)
set_option maxHeartbeats 0 in
set_option maxRecDepth 5000000 in
theorem arena_Check_z6 (vs : List SV) (bs : List Blk) (q : Option (Int)) (h : arena_Check_P6v0 0 vs bs = some q) : q = none := by
  unfold arena_Check_P6v0 at h; split at h
  · have h := Option.some.inj h; rw [← h]; first | rfl | (unfold arena_Check_L6; rfl)
  · cases h
theorem arena_Check_Λ0 (L : Nat) (vs : List SV) (bs : List Blk) : arena_Check_Λ 0 L vs bs = none := by
  unfold arena_Check_Λ
  split
  · unfold arena_Check_P6
    split
    · rename_i q hq; exact arena_Check_z6 _ _ q hq
    rfl
  rfl
set_option maxRecDepth 5000000 in
theorem arena_Check_run (K : Nat) (x : Tup [⟨true, (.pair (.sl .int) (.pair (.sl .int) (.pair (.pair (.pair (.sl .int) (.pair (.sl .int) (.pair (.sl .int) (.sl .int)))) (.pair (.pair (.sl .int) (.pair (.sl .int) (.pair (.sl .int) (.sl .int)))) (.pair (.sl .int) (.pair (.sl .int) (.pair (.sl .int) (.sl .int)))))) (.pair .int (.sl .int)))))⟩]) : (pxFn Try.prog (lkΓ [(25, pool_Check_S), (26, era_Check_S)]) [(6, [1, 7, 8])] Try.f12 (bodyOf Try.f12) false [⟨false, .int⟩] (encTup [⟨true, (.pair (.sl .int) (.pair (.sl .int) (.pair (.pair (.pair (.sl .int) (.pair (.sl .int) (.pair (.sl .int) (.sl .int)))) (.pair (.pair (.sl .int) (.pair (.sl .int) (.pair (.sl .int) (.sl .int)))) (.pair (.sl .int) (.pair (.sl .int) (.pair (.sl .int) (.sl .int)))))) (.pair .int (.sl .int)))))⟩] x)).run (arena_Check_Λ K) = arena_Check_K K x := by kernel_rfl
set_option maxHeartbeats 0 in
set_option maxRecDepth 5000000 in
def pool_Reclaim_P14v0 (k : Nat) (vs : List SV) (bs : List Blk) : Option (Option ((List Int × List Int × List Int × List Int) × Int)) := match vs, bs with
  | [.val (.one (.int .i64 p0)), .val (.one (.ptr 0 0)), .val (.one (.ptr 1 0)), .val (.one (.int .i64 p1)), .val (.one (.row 2)), .val (.one (.int .i64 p2)), .val (.one (.int .i64 p3))], [.box [(.row 3), (.row 2), (.row 4), (.row 5)], .box [.nil, .nil, .nil, .nil], .row .int p4, .row .int p5, .row .int p6, .row .int p7] => some (pool_Reclaim_L14 k p0 p1 p2 p3 p4 p5 p6 p7)
  | _, _ => none
def pool_Reclaim_P14 (k : Nat) (vs : List SV) (bs : List Blk) : Option ((List Int × List Int × List Int × List Int) × Int) := match pool_Reclaim_P14v0 k vs bs with | some r => r | none => none
def pool_Reclaim_Λ (k L : Nat) (vs : List SV) (bs : List Blk) : Option ((List Int × List Int × List Int × List Int) × Int) := match Nat.beq L 14 with | true => pool_Reclaim_P14 k vs bs | false => none
noncomputable def pool_Reclaim_C : List (Cut (Tup [⟨true, (.pair (.sl .int) (.pair (.sl .int) (.pair (.sl .int) (.sl .int))))⟩, ⟨false, .int⟩])) := cuts Try.prog (lkΓ [(25, pool_Check_S), (33, pool_own_S)]) Try.f21.ntmps [(14, [1, 2, 4, 6, 19, 20, 21])] (bodyOf Try.f21) (κ0 Try.prog Try.f21 true [⟨true, (.pair (.sl .int) (.pair (.sl .int) (.pair (.sl .int) (.sl .int))))⟩, ⟨false, .int⟩])
set_option maxRecDepth 5000000 in
theorem pool_Reclaim_c14 (k : Nat) (p0 : Int) (p1 : Int) (p2 : Int) (p3 : Int) (p4 : List Int) (p5 : List Int) (p6 : List Int) (p7 : List Int) : ((nthC pool_Reclaim_C 0).g (mkSt [1, 2, 4, 6, 19, 20, 21] [.val (.one (.int .i64 p0)), .val (.one (.ptr 0 0)), .val (.one (.ptr 1 0)), .val (.one (.int .i64 p1)), .val (.one (.row 2)), .val (.one (.int .i64 p2)), .val (.one (.int .i64 p3))] [.box [(.row 3), (.row 2), (.row 4), (.row 5)], .box [.nil, .nil, .nil, .nil], .row .int p4, .row .int p5, .row .int p6, .row .int p7])).run (pool_Reclaim_Λ k) = pool_Reclaim_L14 (k + 1) p0 p1 p2 p3 p4 p5 p6 p7 := by kernel_rfl
set_option maxHeartbeats 0 in
set_option maxRecDepth 5000000 in
theorem pool_Reclaim_e14 (k : Nat) (vs : List SV) (bs : List Blk) (r : ((List Int) × ((List Int) × ((List Int) × (List Int)))) × Int) (h : pool_Reclaim_P14v0 (k + 1) vs bs = some (some r)) : ((nthC pool_Reclaim_C 0).g (mkSt [1, 2, 4, 6, 19, 20, 21] vs bs)).run (pool_Reclaim_Λ k) = some r := by
  unfold pool_Reclaim_P14v0 at h
  split at h
  · exact (pool_Reclaim_c14 k _ _ _ _ _ _ _ _).trans (Option.some.inj h)
  · cases h
theorem pool_Reclaim_d14 : CutOk pool_Reclaim_Λ (nthC pool_Reclaim_C 0) := by
  refine cutOk_of (L := 14) (live := [1, 2, 4, 6, 19, 20, 21]) (by kernel_rfl) (by kernel_rfl) fun k vs bs r h => ?_
  change pool_Reclaim_P14 (k + 1) vs bs = some r at h
  unfold pool_Reclaim_P14 at h
  split at h
  · rename_i q hq
    exact pool_Reclaim_e14 k vs bs r (hq.trans (congrArg some h))
  cases h
theorem pool_Reclaim_cuts : ∀ p ∈ cuts Try.prog (lkΓ [(25, pool_Check_S), (33, pool_own_S)]) Try.f21.ntmps [(14, [1, 2, 4, 6, 19, 20, 21])] (bodyOf Try.f21) (κ0 Try.prog Try.f21 true [⟨true, (.pair (.sl .int) (.pair (.sl .int) (.pair (.sl .int) (.sl .int))))⟩, ⟨false, .int⟩]), CutOk pool_Reclaim_Λ p := cutsOk (l := pool_Reclaim_C) (n := 1) (by kernel_rfl) fun
  | 0, _ => pool_Reclaim_d14
  | k + 1, h => absurd h (by omega)
set_option maxHeartbeats 0 in
set_option maxRecDepth 5000000 in
theorem pool_Reclaim_z14 (vs : List SV) (bs : List Blk) (q : Option (((List Int) × ((List Int) × ((List Int) × (List Int)))) × Int)) (h : pool_Reclaim_P14v0 0 vs bs = some q) : q = none := by
  unfold pool_Reclaim_P14v0 at h; split at h
  · have h := Option.some.inj h; rw [← h]; first | rfl | (unfold pool_Reclaim_L14; rfl)
  · cases h
theorem pool_Reclaim_Λ0 (L : Nat) (vs : List SV) (bs : List Blk) : pool_Reclaim_Λ 0 L vs bs = none := by
  unfold pool_Reclaim_Λ
  split
  · unfold pool_Reclaim_P14
    split
    · rename_i q hq; exact pool_Reclaim_z14 _ _ q hq
    rfl
  rfl
set_option maxRecDepth 5000000 in
theorem pool_Reclaim_run (K : Nat) (x : Tup [⟨true, (.pair (.sl .int) (.pair (.sl .int) (.pair (.sl .int) (.sl .int))))⟩, ⟨false, .int⟩]) : (pxFn Try.prog (lkΓ [(25, pool_Check_S), (33, pool_own_S)]) [(14, [1, 2, 4, 6, 19, 20, 21])] Try.f21 (bodyOf Try.f21) true [⟨true, (.pair (.sl .int) (.pair (.sl .int) (.pair (.sl .int) (.sl .int))))⟩, ⟨false, .int⟩] (encTup [⟨true, (.pair (.sl .int) (.pair (.sl .int) (.pair (.sl .int) (.sl .int))))⟩, ⟨false, .int⟩] x)).run (pool_Reclaim_Λ K) = pool_Reclaim_K K x := by kernel_rfl
set_option maxHeartbeats 0 in
set_option maxRecDepth 5000000 in
def slices_IndexFunc_era_Turn_1_P6v0 (k : Nat) (vs : List SV) (bs : List Blk) : Option (Option (Int)) := match vs, bs with
  | [.val (.one (.sl .int p0)), .val (.one (.clo 31 (.ref (.pair .int (.sl .int))) p1)), .val (.one (.int .i64 p2)), .val (.one (.int .i64 p3))], [] => some (slices_IndexFunc_era_Turn_1_L6 k p0 p1 p2 p3)
  | _, _ => none
def slices_IndexFunc_era_Turn_1_P6 (k : Nat) (vs : List SV) (bs : List Blk) : Option (Int) := match slices_IndexFunc_era_Turn_1_P6v0 k vs bs with | some r => r | none => none
def slices_IndexFunc_era_Turn_1_Λ (k L : Nat) (vs : List SV) (bs : List Blk) : Option (Int) := match Nat.beq L 6 with | true => slices_IndexFunc_era_Turn_1_P6 k vs bs | false => none
noncomputable def slices_IndexFunc_era_Turn_1_C : List (Cut (Tup [⟨false, .int⟩])) := cuts Try.prog (lkΓ [(31, era_Turn_1_S)]) Try.f38.ntmps [(6, [0, 1, 7, 8])] (bodyOf Try.f38) (κ0 Try.prog Try.f38 false [⟨false, .int⟩])
set_option maxRecDepth 5000000 in
theorem slices_IndexFunc_era_Turn_1_c6 (k : Nat) (p0 : List Int) (p1 : Int × List Int) (p2 : Int) (p3 : Int) : ((nthC slices_IndexFunc_era_Turn_1_C 0).g (mkSt [0, 1, 7, 8] [.val (.one (.sl .int p0)), .val (.one (.clo 31 (.ref (.pair .int (.sl .int))) p1)), .val (.one (.int .i64 p2)), .val (.one (.int .i64 p3))] [])).run (slices_IndexFunc_era_Turn_1_Λ k) = slices_IndexFunc_era_Turn_1_L6 (k + 1) p0 p1 p2 p3 := by kernel_rfl
set_option maxHeartbeats 0 in
set_option maxRecDepth 5000000 in
theorem slices_IndexFunc_era_Turn_1_e6 (k : Nat) (vs : List SV) (bs : List Blk) (r : Int) (h : slices_IndexFunc_era_Turn_1_P6v0 (k + 1) vs bs = some (some r)) : ((nthC slices_IndexFunc_era_Turn_1_C 0).g (mkSt [0, 1, 7, 8] vs bs)).run (slices_IndexFunc_era_Turn_1_Λ k) = some r := by
  unfold slices_IndexFunc_era_Turn_1_P6v0 at h
  split at h
  · exact (slices_IndexFunc_era_Turn_1_c6 k _ _ _ _).trans (Option.some.inj h)
  · cases h
theorem slices_IndexFunc_era_Turn_1_d6 : CutOk slices_IndexFunc_era_Turn_1_Λ (nthC slices_IndexFunc_era_Turn_1_C 0) := by
  refine cutOk_of (L := 6) (live := [0, 1, 7, 8]) (by kernel_rfl) (by kernel_rfl) fun k vs bs r h => ?_
  change slices_IndexFunc_era_Turn_1_P6 (k + 1) vs bs = some r at h
  unfold slices_IndexFunc_era_Turn_1_P6 at h
  split at h
  · rename_i q hq
    exact slices_IndexFunc_era_Turn_1_e6 k vs bs r (hq.trans (congrArg some h))
  cases h
theorem slices_IndexFunc_era_Turn_1_cuts : ∀ p ∈ cuts Try.prog (lkΓ [(31, era_Turn_1_S)]) Try.f38.ntmps [(6, [0, 1, 7, 8])] (bodyOf Try.f38) (κ0 Try.prog Try.f38 false [⟨false, .int⟩]), CutOk slices_IndexFunc_era_Turn_1_Λ p := cutsOk (l := slices_IndexFunc_era_Turn_1_C) (n := 1) (by kernel_rfl) fun
  | 0, _ => slices_IndexFunc_era_Turn_1_d6
  | k + 1, h => absurd h (by omega)
set_option maxHeartbeats 0 in
set_option maxRecDepth 5000000 in
theorem slices_IndexFunc_era_Turn_1_z6 (vs : List SV) (bs : List Blk) (q : Option (Int)) (h : slices_IndexFunc_era_Turn_1_P6v0 0 vs bs = some q) : q = none := by
  unfold slices_IndexFunc_era_Turn_1_P6v0 at h; split at h
  · have h := Option.some.inj h; rw [← h]; first | rfl | (unfold slices_IndexFunc_era_Turn_1_L6; rfl)
  · cases h
theorem slices_IndexFunc_era_Turn_1_Λ0 (L : Nat) (vs : List SV) (bs : List Blk) : slices_IndexFunc_era_Turn_1_Λ 0 L vs bs = none := by
  unfold slices_IndexFunc_era_Turn_1_Λ
  split
  · unfold slices_IndexFunc_era_Turn_1_P6
    split
    · rename_i q hq; exact slices_IndexFunc_era_Turn_1_z6 _ _ q hq
    rfl
  rfl
set_option maxRecDepth 5000000 in
theorem slices_IndexFunc_era_Turn_1_run (K : Nat) (x : Tup [⟨false, (.sl .int)⟩, ⟨false, (.clo 31 (.ref (.pair .int (.sl .int))))⟩]) : (pxFn Try.prog (lkΓ [(31, era_Turn_1_S)]) [(6, [0, 1, 7, 8])] Try.f38 (bodyOf Try.f38) false [⟨false, .int⟩] (encTup [⟨false, (.sl .int)⟩, ⟨false, (.clo 31 (.ref (.pair .int (.sl .int))))⟩] x)).run (slices_IndexFunc_era_Turn_1_Λ K) = slices_IndexFunc_era_Turn_1_K K x := by kernel_rfl
set_option maxHeartbeats 0 in
set_option maxRecDepth 5000000 in
def slices_Repeat_P18v0 (k : Nat) (vs : List SV) (bs : List Blk) : Option (Option (List Int)) := match vs, bs with
  | [.val (.one (.row 0)), .val (.one (.int .i64 p0))], [.row .int p1] => some (slices_Repeat_L18 k p0 p1)
  | _, _ => none
def slices_Repeat_P18 (k : Nat) (vs : List SV) (bs : List Blk) : Option (List Int) := match slices_Repeat_P18v0 k vs bs with | some r => r | none => none
def slices_Repeat_Λ (k L : Nat) (vs : List SV) (bs : List Blk) : Option (List Int) := match Nat.beq L 18 with | true => slices_Repeat_P18 k vs bs | false => none
noncomputable def slices_Repeat_C : List (Cut (Tup [⟨false, (.sl .int)⟩])) := cuts Try.prog (lkΓ [(37, math_bits_Mul_S), (flagK, flagS)]) Try.f27.ntmps [(18, [7, 8])] (bodyOf Try.f27) (κ0 Try.prog Try.f27 true [⟨false, (.sl .int)⟩])
set_option maxRecDepth 5000000 in
theorem slices_Repeat_c18 (k : Nat) (p0 : Int) (p1 : List Int) : ((nthC slices_Repeat_C 0).g (mkSt [7, 8] [.val (.one (.row 0)), .val (.one (.int .i64 p0))] [.row .int p1])).run (slices_Repeat_Λ k) = slices_Repeat_L18 (k + 1) p0 p1 := by kernel_rfl
set_option maxHeartbeats 0 in
set_option maxRecDepth 5000000 in
theorem slices_Repeat_e18 (k : Nat) (vs : List SV) (bs : List Blk) (r : (List Int)) (h : slices_Repeat_P18v0 (k + 1) vs bs = some (some r)) : ((nthC slices_Repeat_C 0).g (mkSt [7, 8] vs bs)).run (slices_Repeat_Λ k) = some r := by
  unfold slices_Repeat_P18v0 at h
  split at h
  · exact (slices_Repeat_c18 k _ _).trans (Option.some.inj h)
  · cases h
theorem slices_Repeat_d18 : CutOk slices_Repeat_Λ (nthC slices_Repeat_C 0) := by
  refine cutOk_of (L := 18) (live := [7, 8]) (by kernel_rfl) (by kernel_rfl) fun k vs bs r h => ?_
  change slices_Repeat_P18 (k + 1) vs bs = some r at h
  unfold slices_Repeat_P18 at h
  split at h
  · rename_i q hq
    exact slices_Repeat_e18 k vs bs r (hq.trans (congrArg some h))
  cases h
theorem slices_Repeat_cuts : ∀ p ∈ cuts Try.prog (lkΓ [(37, math_bits_Mul_S), (flagK, flagS)]) Try.f27.ntmps [(18, [7, 8])] (bodyOf Try.f27) (κ0 Try.prog Try.f27 true [⟨false, (.sl .int)⟩]), CutOk slices_Repeat_Λ p := cutsOk (l := slices_Repeat_C) (n := 1) (by kernel_rfl) fun
  | 0, _ => slices_Repeat_d18
  | k + 1, h => absurd h (by omega)
set_option maxHeartbeats 0 in
set_option maxRecDepth 5000000 in
theorem slices_Repeat_z18 (vs : List SV) (bs : List Blk) (q : Option ((List Int))) (h : slices_Repeat_P18v0 0 vs bs = some q) : q = none := by
  unfold slices_Repeat_P18v0 at h; split at h
  · have h := Option.some.inj h; rw [← h]; first | rfl | (unfold slices_Repeat_L18; rfl)
  · cases h
theorem slices_Repeat_Λ0 (L : Nat) (vs : List SV) (bs : List Blk) : slices_Repeat_Λ 0 L vs bs = none := by
  unfold slices_Repeat_Λ
  split
  · unfold slices_Repeat_P18
    split
    · rename_i q hq; exact slices_Repeat_z18 _ _ q hq
    rfl
  rfl
set_option maxRecDepth 5000000 in
theorem slices_Repeat_run (K : Nat) (x : Tup [⟨false, (.sl .int)⟩, ⟨false, .int⟩]) : (pxFn Try.prog (lkΓ [(37, math_bits_Mul_S), (flagK, flagS)]) [(18, [7, 8])] Try.f27 (bodyOf Try.f27) true [⟨false, (.sl .int)⟩] (encTup [⟨false, (.sl .int)⟩, ⟨false, .int⟩] x)).run (slices_Repeat_Λ K) = slices_Repeat_K K x := by kernel_rfl
set_option maxRecDepth 5000000 in
theorem arena_End_run (x : Tup [⟨true, (.pair (.sl .int) (.pair (.sl .int) (.pair (.pair (.pair (.sl .int) (.pair (.sl .int) (.pair (.sl .int) (.sl .int)))) (.pair (.pair (.sl .int) (.pair (.sl .int) (.pair (.sl .int) (.sl .int)))) (.pair (.sl .int) (.pair (.sl .int) (.pair (.sl .int) (.sl .int)))))) (.pair .int (.sl .int)))))⟩, ⟨false, .int⟩]) : (pxFn Try.prog (lkΓ [(8, arena_Turn_S), (17, arena_may_S), (19, era_Unpin_S)]) [] Try.f7 (bodyOf Try.f7) false [⟨true, (.pair (.sl .int) (.pair (.sl .int) (.pair (.pair (.pair (.sl .int) (.pair (.sl .int) (.pair (.sl .int) (.sl .int)))) (.pair (.pair (.sl .int) (.pair (.sl .int) (.pair (.sl .int) (.sl .int)))) (.pair (.sl .int) (.pair (.sl .int) (.pair (.sl .int) (.sl .int)))))) (.pair .int (.sl .int)))))⟩, ⟨false, .int⟩] (encTup [⟨true, (.pair (.sl .int) (.pair (.sl .int) (.pair (.pair (.pair (.sl .int) (.pair (.sl .int) (.pair (.sl .int) (.sl .int)))) (.pair (.pair (.sl .int) (.pair (.sl .int) (.pair (.sl .int) (.sl .int)))) (.pair (.sl .int) (.pair (.sl .int) (.pair (.sl .int) (.sl .int)))))) (.pair .int (.sl .int)))))⟩, ⟨false, .int⟩] x)).run (fun _ _ _ => none) = arena_End x := by kernel_rfl
theorem arena_End_cuts : ∀ p ∈ cuts Try.prog (lkΓ [(8, arena_Turn_S), (17, arena_may_S), (19, era_Unpin_S)]) Try.f7.ntmps [] (bodyOf Try.f7) (κ0 Try.prog Try.f7 false [⟨true, (.pair (.sl .int) (.pair (.sl .int) (.pair (.pair (.pair (.sl .int) (.pair (.sl .int) (.pair (.sl .int) (.sl .int)))) (.pair (.pair (.sl .int) (.pair (.sl .int) (.pair (.sl .int) (.sl .int)))) (.pair (.sl .int) (.pair (.sl .int) (.pair (.sl .int) (.sl .int)))))) (.pair .int (.sl .int)))))⟩, ⟨false, .int⟩]), CutOk (fun _ _ _ _ => none) p := cutsNil (by kernel_rfl)
set_option maxRecDepth 5000000 in
theorem pool_Retire_run (x : Tup [⟨true, (.pair (.sl .int) (.pair (.sl .int) (.pair (.sl .int) (.sl .int))))⟩, ⟨false, .int⟩, ⟨false, .int⟩]) : (pxFn Try.prog (lkΓ [(10, tag_Unpack_S), (25, pool_Check_S), (33, pool_own_S)]) [] Try.f24 (bodyOf Try.f24) true [⟨true, (.pair (.sl .int) (.pair (.sl .int) (.pair (.sl .int) (.sl .int))))⟩, ⟨false, .int⟩] (encTup [⟨true, (.pair (.sl .int) (.pair (.sl .int) (.pair (.sl .int) (.sl .int))))⟩, ⟨false, .int⟩, ⟨false, .int⟩] x)).run (fun _ _ _ => none) = pool_Retire x := by kernel_rfl
theorem pool_Retire_cuts : ∀ p ∈ cuts Try.prog (lkΓ [(10, tag_Unpack_S), (25, pool_Check_S), (33, pool_own_S)]) Try.f24.ntmps [] (bodyOf Try.f24) (κ0 Try.prog Try.f24 true [⟨true, (.pair (.sl .int) (.pair (.sl .int) (.pair (.sl .int) (.sl .int))))⟩, ⟨false, .int⟩]), CutOk (fun _ _ _ _ => none) p := cutsNil (by kernel_rfl)
set_option maxRecDepth 5000000 in
theorem slices_ContainsFunc_era_Check_1_run (x : Tup [⟨false, (.sl .int)⟩, ⟨false, (.clo 36 (.ref (.pair .int (.sl .int))))⟩]) : (pxFn Try.prog (lkΓ [(37000038, slices_IndexFunc_era_Check_1_S)]) [] Try.f32 (bodyOf Try.f32) false [⟨false, .bool⟩] (encTup [⟨false, (.sl .int)⟩, ⟨false, (.clo 36 (.ref (.pair .int (.sl .int))))⟩] x)).run (fun _ _ _ => none) = slices_ContainsFunc_era_Check_1 x := by kernel_rfl
theorem slices_ContainsFunc_era_Check_1_cuts : ∀ p ∈ cuts Try.prog (lkΓ [(37000038, slices_IndexFunc_era_Check_1_S)]) Try.f32.ntmps [] (bodyOf Try.f32) (κ0 Try.prog Try.f32 false [⟨false, .bool⟩]), CutOk (fun _ _ _ _ => none) p := cutsNil (by kernel_rfl)
set_option maxRecDepth 5000000 in
theorem era_Unpin_run (x : Tup [⟨true, (.pair .int (.sl .int))⟩, ⟨false, .int⟩]) : (pxFn Try.prog (lkΓ [(28, era_pinned_S), (29, era_with_S)]) [] Try.f19 (bodyOf Try.f19) true [⟨true, (.pair .int (.sl .int))⟩, ⟨false, .int⟩] (encTup [⟨true, (.pair .int (.sl .int))⟩, ⟨false, .int⟩] x)).run (fun _ _ _ => none) = era_Unpin x := by kernel_rfl
theorem era_Unpin_cuts : ∀ p ∈ cuts Try.prog (lkΓ [(28, era_pinned_S), (29, era_with_S)]) Try.f19.ntmps [] (bodyOf Try.f19) (κ0 Try.prog Try.f19 true [⟨true, (.pair .int (.sl .int))⟩, ⟨false, .int⟩]), CutOk (fun _ _ _ _ => none) p := cutsNil (by kernel_rfl)
set_option maxRecDepth 5000000 in
theorem math_bits_Mul64_run (x : Tup [⟨false, (.num .u64)⟩, ⟨false, (.num .u64)⟩]) : (pxFn Try.prog (lkΓ []) [] Try.f41 (bodyOf Try.f41) false [⟨false, (.num .u64)⟩, ⟨false, (.num .u64)⟩] (encTup [⟨false, (.num .u64)⟩, ⟨false, (.num .u64)⟩] x)).run (fun _ _ _ => none) = math_bits_Mul64 x := by kernel_rfl
theorem math_bits_Mul64_cuts : ∀ p ∈ cuts Try.prog (lkΓ []) Try.f41.ntmps [] (bodyOf Try.f41) (κ0 Try.prog Try.f41 false [⟨false, (.num .u64)⟩, ⟨false, (.num .u64)⟩]), CutOk (fun _ _ _ _ => none) p := cutsNil (by kernel_rfl)
set_option maxRecDepth 5000000 in
theorem slices_Contains_run (x : Tup [⟨false, (.sl .bool)⟩, ⟨false, .bool⟩]) : (pxFn Try.prog (lkΓ [(39, slices_Index_S)]) [] Try.f35 (bodyOf Try.f35) false [⟨false, .bool⟩] (encTup [⟨false, (.sl .bool)⟩, ⟨false, .bool⟩] x)).run (fun _ _ _ => none) = slices_Contains x := by kernel_rfl
theorem slices_Contains_cuts : ∀ p ∈ cuts Try.prog (lkΓ [(39, slices_Index_S)]) Try.f35.ntmps [] (bodyOf Try.f35) (κ0 Try.prog Try.f35 false [⟨false, .bool⟩]), CutOk (fun _ _ _ _ => none) p := cutsNil (by kernel_rfl)
set_option maxRecDepth 5000000 in
theorem era_Turn_1_run (x : Tup [⟨false, .int⟩, ⟨false, (.ref (.pair .int (.sl .int)))⟩]) : (pxFn Try.prog (lkΓ []) [] Try.f31 (bodyOf Try.f31) false [⟨false, .bool⟩] (encTup [⟨false, .int⟩, ⟨false, (.ref (.pair .int (.sl .int)))⟩] x)).run (fun _ _ _ => none) = era_Turn_1 x := by kernel_rfl
theorem era_Turn_1_cuts : ∀ p ∈ cuts Try.prog (lkΓ []) Try.f31.ntmps [] (bodyOf Try.f31) (κ0 Try.prog Try.f31 false [⟨false, .bool⟩]), CutOk (fun _ _ _ _ => none) p := cutsNil (by kernel_rfl)
end Go.Proofs.YtkdohmgacodhjaaFn
