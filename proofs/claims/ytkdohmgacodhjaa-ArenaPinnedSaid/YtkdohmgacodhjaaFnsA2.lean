/- What the interpreter of code computes of these functions, part 2; no condition. -/
import Derived.Test.YtkdohmgacodhjaaProg
import Derived.KernelRfl
import Derived.Test.YtkdohmgacodhjaaPx25
import Derived.Test.YtkdohmgacodhjaaFnsD
set_option linter.unusedVariables false
set_option linter.unusedSimpArgs false
namespace Go.Proofs.YtkdohmgacodhjaaFn
open Go Go.RowKit Go.Proofs.YtkdohmgacodhjaaPx
set_option maxHeartbeats 0 in
set_option maxRecDepth 5000000 in
def tendrillaw07_ArenaPinned_P26v0 (k : Nat) (vs : List SV) (bs : List Blk) : Option (Option (Bool)) := match vs, bs with
  | [.val (.one (.int .i64 p0)), .val (.one (.ptr 0 0)), .val (.one (.row 1)), .val (.one (.row 2)), .val (.one (.row 3)), .val (.one (.sl .int p1)), .val (.one (.int .i64 p2)), .val (.one (.int .i64 p3))], [.box [(.sl .int p4), (.sl .int p5), (.sl .int p6), (.sl .int p7), (.sl .int p8), (.sl .int p9), (.sl .int p10), (.sl .int p11), (.sl .int p12), (.sl .int p13), (.sl .int p14), (.sl .int p15), (.sl .int p16), (.sl .int p17), (.int .i64 p18), (.sl .int p19)], .row (.sl (.pair .int .int)) p20, .row .bool p21, .row (.pair .int .int) p22] => some (tendrillaw07_ArenaPinned_L26 k p0 p1 p2 p3 p4 p5 p6 p7 p8 p9 p10 p11 p12 p13 p14 p15 p16 p17 p18 p19 p20 p21 p22)
  | _, _ => none
set_option maxHeartbeats 0 in
set_option maxRecDepth 5000000 in
def tendrillaw07_ArenaPinned_P116v0 (k : Nat) (vs : List SV) (bs : List Blk) : Option (Option (Bool)) := match vs, bs with
  | [.val (.one (.int .i64 p0)), .val (.one (.ptr 0 0)), .val (.one (.row 1)), .val (.one (.row 2)), .val (.one (.row 3)), .val (.one (.int .i64 p1)), .val (.one (.int .i64 p2)), .val (.one (.int .i64 p3)), .val (.one (.sl .int p4)), .val (.one (.int .i64 p5)), .val (.one (.int .i64 p6)), .val (.one (.int .i64 p7)), .val (.one (.int .i64 p8))], [.box [(.sl .int p9), (.sl .int p10), (.sl .int p11), (.sl .int p12), (.sl .int p13), (.sl .int p14), (.sl .int p15), (.sl .int p16), (.sl .int p17), (.sl .int p18), (.sl .int p19), (.sl .int p20), (.sl .int p21), (.sl .int p22), (.int .i64 p23), (.sl .int p24)], .row (.sl (.pair .int .int)) p25, .row .bool p26, .row (.pair .int .int) p27] => some (tendrillaw07_ArenaPinned_L116 k p0 p1 p2 p3 p4 p5 p6 p7 p8 p9 p10 p11 p12 p13 p14 p15 p16 p17 p18 p19 p20 p21 p22 p23 p24 p25 p26 p27)
  | _, _ => none
set_option maxHeartbeats 0 in
set_option maxRecDepth 5000000 in
def tendrillaw07_ArenaPinned_P62v0 (k : Nat) (vs : List SV) (bs : List Blk) : Option (Option (Bool)) := match vs, bs with
  | [.val (.one (.int .i64 p0)), .val (.one (.ptr 0 0)), .val (.one (.row 1)), .val (.one (.row 2)), .val (.one (.row 3)), .val (.one (.ptr 4 0)), .val (.one (.int .i64 p1)), .val (.one (.sl .int p2)), .val (.one (.int .i64 p3)), .val (.one (.int .i64 p4)), .val (.one (.int .i64 p5)), .val (.one (.int .i64 p6))], [.box [(.sl .int p7), (.sl .int p8), (.sl .int p9), (.sl .int p10), (.sl .int p11), (.sl .int p12), (.sl .int p13), (.sl .int p14), (.sl .int p15), (.sl .int p16), (.sl .int p17), (.sl .int p18), (.sl .int p19), (.sl .int p20), (.int .i64 p21), (.sl .int p22)], .row (.sl (.pair .int .int)) p23, .row .bool p24, .row (.pair .int .int) p25, .box [(.int .i64 p26), (.int .i64 p27)]] => some (tendrillaw07_ArenaPinned_L62 k p0 p1 p2 p3 p4 p5 p6 p7 p8 p9 p10 p11 p12 p13 p14 p15 p16 p17 p18 p19 p20 p21 p22 p23 p24 p25 p26 p27)
  | _, _ => none
set_option maxHeartbeats 0 in
set_option maxRecDepth 5000000 in
def tendrillaw07_ArenaPinned_P122v0 (k : Nat) (vs : List SV) (bs : List Blk) : Option (Option (Bool)) := match vs, bs with
  | [.val (.one (.int .i64 p0)), .val (.one (.ptr 0 0)), .val (.one (.row 1)), .val (.one (.row 2)), .val (.one (.row 3)), .val (.one (.int .i64 p1)), .val (.one (.int .i64 p2)), .val (.one (.int .i64 p3)), .val (.one (.int .i64 p4)), .val (.one (.sl .int p5)), .val (.one (.int .i64 p6)), .val (.one (.int .i64 p7)), .val (.one (.int .i64 p8)), .val (.one (.int .i64 p9)), .val (.one (.sl (.pair .int .int) p10)), .val (.one (.int .i64 p11)), .val (.one (.int .i64 p12))], [.box [(.sl .int p13), (.sl .int p14), (.sl .int p15), (.sl .int p16), (.sl .int p17), (.sl .int p18), (.sl .int p19), (.sl .int p20), (.sl .int p21), (.sl .int p22), (.sl .int p23), (.sl .int p24), (.sl .int p25), (.sl .int p26), (.int .i64 p27), (.sl .int p28)], .row (.sl (.pair .int .int)) p29, .row .bool p30, .row (.pair .int .int) p31] => some (tendrillaw07_ArenaPinned_L122 k p0 p1 p2 p3 p4 p5 p6 p7 p8 p9 p10 p11 p12 p13 p14 p15 p16 p17 p18 p19 p20 p21 p22 p23 p24 p25 p26 p27 p28 p29 p30 p31)
  | _, _ => none
def tendrillaw07_ArenaPinned_P26 (k : Nat) (vs : List SV) (bs : List Blk) : Option (Bool) := match tendrillaw07_ArenaPinned_P26v0 k vs bs with | some r => r | none => none
def tendrillaw07_ArenaPinned_P116 (k : Nat) (vs : List SV) (bs : List Blk) : Option (Bool) := match tendrillaw07_ArenaPinned_P116v0 k vs bs with | some r => r | none => none
def tendrillaw07_ArenaPinned_P62 (k : Nat) (vs : List SV) (bs : List Blk) : Option (Bool) := match tendrillaw07_ArenaPinned_P62v0 k vs bs with | some r => r | none => none
def tendrillaw07_ArenaPinned_P122 (k : Nat) (vs : List SV) (bs : List Blk) : Option (Bool) := match tendrillaw07_ArenaPinned_P122v0 k vs bs with | some r => r | none => none
def tendrillaw07_ArenaPinned_Λ (k L : Nat) (vs : List SV) (bs : List Blk) : Option (Bool) := match Nat.beq L 26 with | true => tendrillaw07_ArenaPinned_P26 k vs bs | false => match Nat.beq L 116 with | true => tendrillaw07_ArenaPinned_P116 k vs bs | false => match Nat.beq L 62 with | true => tendrillaw07_ArenaPinned_P62 k vs bs | false => match Nat.beq L 122 with | true => tendrillaw07_ArenaPinned_P122 k vs bs | false => none
noncomputable def tendrillaw07_ArenaPinned_C : List (Cut (Tup [⟨false, .bool⟩])) := cuts Try.prog (lkΓ [(4, tendrillaw07_live_S), (5, arena_New_S), (6, arena_Pin_S), (7, arena_End_S), (8, arena_Turn_S), (9, arena_Take_S), (10, tag_Unpack_S), (11, arena_Retire_S), (12, arena_Check_S), (flagK, flagS)]) Try.f3.ntmps [(122, [1, 7, 9, 10, 11, 16, 22, 24, 27, 68, 69, 70, 212, 213, 219, 220, 221]), (116, [1, 7, 9, 10, 11, 16, 22, 24, 68, 69, 70, 212, 213]), (62, [1, 7, 9, 10, 11, 31, 34, 68, 69, 70, 130, 131]), (26, [1, 7, 9, 10, 11, 68, 69, 70])] (bodyOf Try.f3) (κ0 Try.prog Try.f3 false [⟨false, .bool⟩])
set_option maxRecDepth 5000000 in
theorem tendrillaw07_ArenaPinned_c26 (k : Nat) (p0 : Int) (p1 : List Int) (p2 : Int) (p3 : Int) (p4 : List Int) (p5 : List Int) (p6 : List Int) (p7 : List Int) (p8 : List Int) (p9 : List Int) (p10 : List Int) (p11 : List Int) (p12 : List Int) (p13 : List Int) (p14 : List Int) (p15 : List Int) (p16 : List Int) (p17 : List Int) (p18 : Int) (p19 : List Int) (p20 : List (List (Int × Int))) (p21 : List Bool) (p22 : List (Int × Int)) : ((nthC tendrillaw07_ArenaPinned_C 0).g (mkSt [1, 7, 9, 10, 11, 68, 69, 70] [.val (.one (.int .i64 p0)), .val (.one (.ptr 0 0)), .val (.one (.row 1)), .val (.one (.row 2)), .val (.one (.row 3)), .val (.one (.sl .int p1)), .val (.one (.int .i64 p2)), .val (.one (.int .i64 p3))] [.box [(.sl .int p4), (.sl .int p5), (.sl .int p6), (.sl .int p7), (.sl .int p8), (.sl .int p9), (.sl .int p10), (.sl .int p11), (.sl .int p12), (.sl .int p13), (.sl .int p14), (.sl .int p15), (.sl .int p16), (.sl .int p17), (.int .i64 p18), (.sl .int p19)], .row (.sl (.pair .int .int)) p20, .row .bool p21, .row (.pair .int .int) p22])).run (tendrillaw07_ArenaPinned_Λ k) = tendrillaw07_ArenaPinned_L26 (k + 1) p0 p1 p2 p3 p4 p5 p6 p7 p8 p9 p10 p11 p12 p13 p14 p15 p16 p17 p18 p19 p20 p21 p22 := by kernel_rfl
set_option maxHeartbeats 0 in
set_option maxRecDepth 5000000 in
theorem tendrillaw07_ArenaPinned_e26 (k : Nat) (vs : List SV) (bs : List Blk) (r : Bool) (h : tendrillaw07_ArenaPinned_P26v0 (k + 1) vs bs = some (some r)) : ((nthC tendrillaw07_ArenaPinned_C 0).g (mkSt [1, 7, 9, 10, 11, 68, 69, 70] vs bs)).run (tendrillaw07_ArenaPinned_Λ k) = some r := by
  unfold tendrillaw07_ArenaPinned_P26v0 at h
  split at h
  · exact (tendrillaw07_ArenaPinned_c26 k _ _ _ _ _ _ _ _ _ _ _ _ _ _ _ _ _ _ _ _ _ _ _).trans (Option.some.inj h)
  · cases h
set_option maxRecDepth 5000000 in
theorem tendrillaw07_ArenaPinned_c116 (k : Nat) (p0 : Int) (p1 : Int) (p2 : Int) (p3 : Int) (p4 : List Int) (p5 : Int) (p6 : Int) (p7 : Int) (p8 : Int) (p9 : List Int) (p10 : List Int) (p11 : List Int) (p12 : List Int) (p13 : List Int) (p14 : List Int) (p15 : List Int) (p16 : List Int) (p17 : List Int) (p18 : List Int) (p19 : List Int) (p20 : List Int) (p21 : List Int) (p22 : List Int) (p23 : Int) (p24 : List Int) (p25 : List (List (Int × Int))) (p26 : List Bool) (p27 : List (Int × Int)) : ((nthC tendrillaw07_ArenaPinned_C 1).g (mkSt [1, 7, 9, 10, 11, 16, 22, 24, 68, 69, 70, 212, 213] [.val (.one (.int .i64 p0)), .val (.one (.ptr 0 0)), .val (.one (.row 1)), .val (.one (.row 2)), .val (.one (.row 3)), .val (.one (.int .i64 p1)), .val (.one (.int .i64 p2)), .val (.one (.int .i64 p3)), .val (.one (.sl .int p4)), .val (.one (.int .i64 p5)), .val (.one (.int .i64 p6)), .val (.one (.int .i64 p7)), .val (.one (.int .i64 p8))] [.box [(.sl .int p9), (.sl .int p10), (.sl .int p11), (.sl .int p12), (.sl .int p13), (.sl .int p14), (.sl .int p15), (.sl .int p16), (.sl .int p17), (.sl .int p18), (.sl .int p19), (.sl .int p20), (.sl .int p21), (.sl .int p22), (.int .i64 p23), (.sl .int p24)], .row (.sl (.pair .int .int)) p25, .row .bool p26, .row (.pair .int .int) p27])).run (tendrillaw07_ArenaPinned_Λ k) = tendrillaw07_ArenaPinned_L116 (k + 1) p0 p1 p2 p3 p4 p5 p6 p7 p8 p9 p10 p11 p12 p13 p14 p15 p16 p17 p18 p19 p20 p21 p22 p23 p24 p25 p26 p27 := by kernel_rfl
set_option maxHeartbeats 0 in
set_option maxRecDepth 5000000 in
theorem tendrillaw07_ArenaPinned_e116 (k : Nat) (vs : List SV) (bs : List Blk) (r : Bool) (h : tendrillaw07_ArenaPinned_P116v0 (k + 1) vs bs = some (some r)) : ((nthC tendrillaw07_ArenaPinned_C 1).g (mkSt [1, 7, 9, 10, 11, 16, 22, 24, 68, 69, 70, 212, 213] vs bs)).run (tendrillaw07_ArenaPinned_Λ k) = some r := by
  unfold tendrillaw07_ArenaPinned_P116v0 at h
  split at h
  · exact (tendrillaw07_ArenaPinned_c116 k _ _ _ _ _ _ _ _ _ _ _ _ _ _ _ _ _ _ _ _ _ _ _ _ _ _ _ _).trans (Option.some.inj h)
  · cases h
set_option maxRecDepth 5000000 in
theorem tendrillaw07_ArenaPinned_c62 (k : Nat) (p0 : Int) (p1 : Int) (p2 : List Int) (p3 : Int) (p4 : Int) (p5 : Int) (p6 : Int) (p7 : List Int) (p8 : List Int) (p9 : List Int) (p10 : List Int) (p11 : List Int) (p12 : List Int) (p13 : List Int) (p14 : List Int) (p15 : List Int) (p16 : List Int) (p17 : List Int) (p18 : List Int) (p19 : List Int) (p20 : List Int) (p21 : Int) (p22 : List Int) (p23 : List (List (Int × Int))) (p24 : List Bool) (p25 : List (Int × Int)) (p26 : Int) (p27 : Int) : ((nthC tendrillaw07_ArenaPinned_C 3).g (mkSt [1, 7, 9, 10, 11, 31, 34, 68, 69, 70, 130, 131] [.val (.one (.int .i64 p0)), .val (.one (.ptr 0 0)), .val (.one (.row 1)), .val (.one (.row 2)), .val (.one (.row 3)), .val (.one (.ptr 4 0)), .val (.one (.int .i64 p1)), .val (.one (.sl .int p2)), .val (.one (.int .i64 p3)), .val (.one (.int .i64 p4)), .val (.one (.int .i64 p5)), .val (.one (.int .i64 p6))] [.box [(.sl .int p7), (.sl .int p8), (.sl .int p9), (.sl .int p10), (.sl .int p11), (.sl .int p12), (.sl .int p13), (.sl .int p14), (.sl .int p15), (.sl .int p16), (.sl .int p17), (.sl .int p18), (.sl .int p19), (.sl .int p20), (.int .i64 p21), (.sl .int p22)], .row (.sl (.pair .int .int)) p23, .row .bool p24, .row (.pair .int .int) p25, .box [(.int .i64 p26), (.int .i64 p27)]])).run (tendrillaw07_ArenaPinned_Λ k) = tendrillaw07_ArenaPinned_L62 (k + 1) p0 p1 p2 p3 p4 p5 p6 p7 p8 p9 p10 p11 p12 p13 p14 p15 p16 p17 p18 p19 p20 p21 p22 p23 p24 p25 p26 p27 := by kernel_rfl
set_option maxHeartbeats 0 in
set_option maxRecDepth 5000000 in
theorem tendrillaw07_ArenaPinned_e62 (k : Nat) (vs : List SV) (bs : List Blk) (r : Bool) (h : tendrillaw07_ArenaPinned_P62v0 (k + 1) vs bs = some (some r)) : ((nthC tendrillaw07_ArenaPinned_C 3).g (mkSt [1, 7, 9, 10, 11, 31, 34, 68, 69, 70, 130, 131] vs bs)).run (tendrillaw07_ArenaPinned_Λ k) = some r := by
  unfold tendrillaw07_ArenaPinned_P62v0 at h
  split at h
  · exact (tendrillaw07_ArenaPinned_c62 k _ _ _ _ _ _ _ _ _ _ _ _ _ _ _ _ _ _ _ _ _ _ _ _ _ _ _ _).trans (Option.some.inj h)
  · cases h
set_option maxRecDepth 5000000 in
theorem tendrillaw07_ArenaPinned_c122 (k : Nat) (p0 : Int) (p1 : Int) (p2 : Int) (p3 : Int) (p4 : Int) (p5 : List Int) (p6 : Int) (p7 : Int) (p8 : Int) (p9 : Int) (p10 : List (Int × Int)) (p11 : Int) (p12 : Int) (p13 : List Int) (p14 : List Int) (p15 : List Int) (p16 : List Int) (p17 : List Int) (p18 : List Int) (p19 : List Int) (p20 : List Int) (p21 : List Int) (p22 : List Int) (p23 : List Int) (p24 : List Int) (p25 : List Int) (p26 : List Int) (p27 : Int) (p28 : List Int) (p29 : List (List (Int × Int))) (p30 : List Bool) (p31 : List (Int × Int)) : ((nthC tendrillaw07_ArenaPinned_C 2).g (mkSt [1, 7, 9, 10, 11, 16, 22, 24, 27, 68, 69, 70, 212, 213, 219, 220, 221] [.val (.one (.int .i64 p0)), .val (.one (.ptr 0 0)), .val (.one (.row 1)), .val (.one (.row 2)), .val (.one (.row 3)), .val (.one (.int .i64 p1)), .val (.one (.int .i64 p2)), .val (.one (.int .i64 p3)), .val (.one (.int .i64 p4)), .val (.one (.sl .int p5)), .val (.one (.int .i64 p6)), .val (.one (.int .i64 p7)), .val (.one (.int .i64 p8)), .val (.one (.int .i64 p9)), .val (.one (.sl (.pair .int .int) p10)), .val (.one (.int .i64 p11)), .val (.one (.int .i64 p12))] [.box [(.sl .int p13), (.sl .int p14), (.sl .int p15), (.sl .int p16), (.sl .int p17), (.sl .int p18), (.sl .int p19), (.sl .int p20), (.sl .int p21), (.sl .int p22), (.sl .int p23), (.sl .int p24), (.sl .int p25), (.sl .int p26), (.int .i64 p27), (.sl .int p28)], .row (.sl (.pair .int .int)) p29, .row .bool p30, .row (.pair .int .int) p31])).run (tendrillaw07_ArenaPinned_Λ k) = tendrillaw07_ArenaPinned_L122 (k + 1) p0 p1 p2 p3 p4 p5 p6 p7 p8 p9 p10 p11 p12 p13 p14 p15 p16 p17 p18 p19 p20 p21 p22 p23 p24 p25 p26 p27 p28 p29 p30 p31 := by kernel_rfl
set_option maxHeartbeats 0 in
set_option maxRecDepth 5000000 in
theorem tendrillaw07_ArenaPinned_e122 (k : Nat) (vs : List SV) (bs : List Blk) (r : Bool) (h : tendrillaw07_ArenaPinned_P122v0 (k + 1) vs bs = some (some r)) : ((nthC tendrillaw07_ArenaPinned_C 2).g (mkSt [1, 7, 9, 10, 11, 16, 22, 24, 27, 68, 69, 70, 212, 213, 219, 220, 221] vs bs)).run (tendrillaw07_ArenaPinned_Λ k) = some r := by
  unfold tendrillaw07_ArenaPinned_P122v0 at h
  split at h
  · exact (tendrillaw07_ArenaPinned_c122 k _ _ _ _ _ _ _ _ _ _ _ _ _ _ _ _ _ _ _ _ _ _ _ _ _ _ _ _ _ _ _ _).trans (Option.some.inj h)
  · cases h
theorem tendrillaw07_ArenaPinned_d26 : CutOk tendrillaw07_ArenaPinned_Λ (nthC tendrillaw07_ArenaPinned_C 0) := by
  refine cutOk_of (L := 26) (live := [1, 7, 9, 10, 11, 68, 69, 70]) (by kernel_rfl) (by kernel_rfl) fun k vs bs r h => ?_
  change tendrillaw07_ArenaPinned_P26 (k + 1) vs bs = some r at h
  unfold tendrillaw07_ArenaPinned_P26 at h
  split at h
  · rename_i q hq
    exact tendrillaw07_ArenaPinned_e26 k vs bs r (hq.trans (congrArg some h))
  cases h
theorem tendrillaw07_ArenaPinned_d116 : CutOk tendrillaw07_ArenaPinned_Λ (nthC tendrillaw07_ArenaPinned_C 1) := by
  refine cutOk_of (L := 116) (live := [1, 7, 9, 10, 11, 16, 22, 24, 68, 69, 70, 212, 213]) (by kernel_rfl) (by kernel_rfl) fun k vs bs r h => ?_
  change tendrillaw07_ArenaPinned_P116 (k + 1) vs bs = some r at h
  unfold tendrillaw07_ArenaPinned_P116 at h
  split at h
  · rename_i q hq
    exact tendrillaw07_ArenaPinned_e116 k vs bs r (hq.trans (congrArg some h))
  cases h
theorem tendrillaw07_ArenaPinned_d62 : CutOk tendrillaw07_ArenaPinned_Λ (nthC tendrillaw07_ArenaPinned_C 3) := by
  refine cutOk_of (L := 62) (live := [1, 7, 9, 10, 11, 31, 34, 68, 69, 70, 130, 131]) (by kernel_rfl) (by kernel_rfl) fun k vs bs r h => ?_
  change tendrillaw07_ArenaPinned_P62 (k + 1) vs bs = some r at h
  unfold tendrillaw07_ArenaPinned_P62 at h
  split at h
  · rename_i q hq
    exact tendrillaw07_ArenaPinned_e62 k vs bs r (hq.trans (congrArg some h))
  cases h
theorem tendrillaw07_ArenaPinned_d122 : CutOk tendrillaw07_ArenaPinned_Λ (nthC tendrillaw07_ArenaPinned_C 2) := by
  refine cutOk_of (L := 122) (live := [1, 7, 9, 10, 11, 16, 22, 24, 27, 68, 69, 70, 212, 213, 219, 220, 221]) (by kernel_rfl) (by kernel_rfl) fun k vs bs r h => ?_
  change tendrillaw07_ArenaPinned_P122 (k + 1) vs bs = some r at h
  unfold tendrillaw07_ArenaPinned_P122 at h
  split at h
  · rename_i q hq
    exact tendrillaw07_ArenaPinned_e122 k vs bs r (hq.trans (congrArg some h))
  cases h
theorem tendrillaw07_ArenaPinned_cuts : ∀ p ∈ cuts Try.prog (lkΓ [(4, tendrillaw07_live_S), (5, arena_New_S), (6, arena_Pin_S), (7, arena_End_S), (8, arena_Turn_S), (9, arena_Take_S), (10, tag_Unpack_S), (11, arena_Retire_S), (12, arena_Check_S), (flagK, flagS)]) Try.f3.ntmps [(122, [1, 7, 9, 10, 11, 16, 22, 24, 27, 68, 69, 70, 212, 213, 219, 220, 221]), (116, [1, 7, 9, 10, 11, 16, 22, 24, 68, 69, 70, 212, 213]), (62, [1, 7, 9, 10, 11, 31, 34, 68, 69, 70, 130, 131]), (26, [1, 7, 9, 10, 11, 68, 69, 70])] (bodyOf Try.f3) (κ0 Try.prog Try.f3 false [⟨false, .bool⟩]), CutOk tendrillaw07_ArenaPinned_Λ p := cutsOk (l := tendrillaw07_ArenaPinned_C) (n := 4) (by kernel_rfl) fun
  | 0, _ => tendrillaw07_ArenaPinned_d26
  | 1, _ => tendrillaw07_ArenaPinned_d116
  | 2, _ => tendrillaw07_ArenaPinned_d122
  | 3, _ => tendrillaw07_ArenaPinned_d62
  | k + 4, h => absurd h (by omega)
set_option maxHeartbeats 0 in
set_option maxRecDepth 5000000 in
theorem tendrillaw07_ArenaPinned_z26 (vs : List SV) (bs : List Blk) (q : Option (Bool)) (h : tendrillaw07_ArenaPinned_P26v0 0 vs bs = some q) : q = none := by
  unfold tendrillaw07_ArenaPinned_P26v0 at h; split at h
  · have h := Option.some.inj h; rw [← h]; first | rfl | (unfold tendrillaw07_ArenaPinned_L26; rfl)
  · cases h
set_option maxHeartbeats 0 in
set_option maxRecDepth 5000000 in
theorem tendrillaw07_ArenaPinned_z116 (vs : List SV) (bs : List Blk) (q : Option (Bool)) (h : tendrillaw07_ArenaPinned_P116v0 0 vs bs = some q) : q = none := by
  unfold tendrillaw07_ArenaPinned_P116v0 at h; split at h
  · have h := Option.some.inj h; rw [← h]; first | rfl | (unfold tendrillaw07_ArenaPinned_L116; rfl)
  · cases h
set_option maxHeartbeats 0 in
set_option maxRecDepth 5000000 in
theorem tendrillaw07_ArenaPinned_z62 (vs : List SV) (bs : List Blk) (q : Option (Bool)) (h : tendrillaw07_ArenaPinned_P62v0 0 vs bs = some q) : q = none := by
  unfold tendrillaw07_ArenaPinned_P62v0 at h; split at h
  · have h := Option.some.inj h; rw [← h]; first | rfl | (unfold tendrillaw07_ArenaPinned_L62; rfl)
  · cases h
set_option maxHeartbeats 0 in
set_option maxRecDepth 5000000 in
theorem tendrillaw07_ArenaPinned_z122 (vs : List SV) (bs : List Blk) (q : Option (Bool)) (h : tendrillaw07_ArenaPinned_P122v0 0 vs bs = some q) : q = none := by
  unfold tendrillaw07_ArenaPinned_P122v0 at h; split at h
  · have h := Option.some.inj h; rw [← h]; first | rfl | (unfold tendrillaw07_ArenaPinned_L122; rfl)
  · cases h
theorem tendrillaw07_ArenaPinned_Λ0 (L : Nat) (vs : List SV) (bs : List Blk) : tendrillaw07_ArenaPinned_Λ 0 L vs bs = none := by
  unfold tendrillaw07_ArenaPinned_Λ
  split
  · unfold tendrillaw07_ArenaPinned_P26
    split
    · rename_i q hq; exact tendrillaw07_ArenaPinned_z26 _ _ q hq
    rfl
  split
  · unfold tendrillaw07_ArenaPinned_P116
    split
    · rename_i q hq; exact tendrillaw07_ArenaPinned_z116 _ _ q hq
    rfl
  split
  · unfold tendrillaw07_ArenaPinned_P62
    split
    · rename_i q hq; exact tendrillaw07_ArenaPinned_z62 _ _ q hq
    rfl
  split
  · unfold tendrillaw07_ArenaPinned_P122
    split
    · rename_i q hq; exact tendrillaw07_ArenaPinned_z122 _ _ q hq
    rfl
  rfl
set_option maxRecDepth 5000000 in
theorem tendrillaw07_ArenaPinned_run (K : Nat) (x : Tup [⟨true, (.pair .int (.pair .int (.pair .int (.pair .int .int))))⟩, ⟨false, .int⟩, ⟨false, (.sl .int)⟩]) : (pxFn Try.prog (lkΓ [(4, tendrillaw07_live_S), (5, arena_New_S), (6, arena_Pin_S), (7, arena_End_S), (8, arena_Turn_S), (9, arena_Take_S), (10, tag_Unpack_S), (11, arena_Retire_S), (12, arena_Check_S), (flagK, flagS)]) [(122, [1, 7, 9, 10, 11, 16, 22, 24, 27, 68, 69, 70, 212, 213, 219, 220, 221]), (116, [1, 7, 9, 10, 11, 16, 22, 24, 68, 69, 70, 212, 213]), (62, [1, 7, 9, 10, 11, 31, 34, 68, 69, 70, 130, 131]), (26, [1, 7, 9, 10, 11, 68, 69, 70])] Try.f3 (bodyOf Try.f3) false [⟨false, .bool⟩] (encTup [⟨true, (.pair .int (.pair .int (.pair .int (.pair .int .int))))⟩, ⟨false, .int⟩, ⟨false, (.sl .int)⟩] x)).run (tendrillaw07_ArenaPinned_Λ K) = tendrillaw07_ArenaPinned_K K x := by kernel_rfl
set_option maxHeartbeats 0 in
set_option maxRecDepth 5000000 in
def slices_IndexFunc_era_Check_1_P6v0 (k : Nat) (vs : List SV) (bs : List Blk) : Option (Option (Int)) := match vs, bs with
  | [.val (.one (.sl .int p0)), .val (.one (.clo 36 (.ref (.pair .int (.sl .int))) p1)), .val (.one (.int .i64 p2)), .val (.one (.int .i64 p3))], [] => some (slices_IndexFunc_era_Check_1_L6 k p0 p1 p2 p3)
  | _, _ => none
def slices_IndexFunc_era_Check_1_P6 (k : Nat) (vs : List SV) (bs : List Blk) : Option (Int) := match slices_IndexFunc_era_Check_1_P6v0 k vs bs with | some r => r | none => none
def slices_IndexFunc_era_Check_1_Λ (k L : Nat) (vs : List SV) (bs : List Blk) : Option (Int) := match Nat.beq L 6 with | true => slices_IndexFunc_era_Check_1_P6 k vs bs | false => none
noncomputable def slices_IndexFunc_era_Check_1_C : List (Cut (Tup [⟨false, .int⟩])) := cuts Try.prog (lkΓ [(36, era_Check_1_S)]) Try.f38.ntmps [(6, [0, 1, 7, 8])] (bodyOf Try.f38) (κ0 Try.prog Try.f38 false [⟨false, .int⟩])
set_option maxRecDepth 5000000 in
theorem slices_IndexFunc_era_Check_1_c6 (k : Nat) (p0 : List Int) (p1 : Int × List Int) (p2 : Int) (p3 : Int) : ((nthC slices_IndexFunc_era_Check_1_C 0).g (mkSt [0, 1, 7, 8] [.val (.one (.sl .int p0)), .val (.one (.clo 36 (.ref (.pair .int (.sl .int))) p1)), .val (.one (.int .i64 p2)), .val (.one (.int .i64 p3))] [])).run (slices_IndexFunc_era_Check_1_Λ k) = slices_IndexFunc_era_Check_1_L6 (k + 1) p0 p1 p2 p3 := by kernel_rfl
set_option maxHeartbeats 0 in
set_option maxRecDepth 5000000 in
theorem slices_IndexFunc_era_Check_1_e6 (k : Nat) (vs : List SV) (bs : List Blk) (r : Int) (h : slices_IndexFunc_era_Check_1_P6v0 (k + 1) vs bs = some (some r)) : ((nthC slices_IndexFunc_era_Check_1_C 0).g (mkSt [0, 1, 7, 8] vs bs)).run (slices_IndexFunc_era_Check_1_Λ k) = some r := by
  unfold slices_IndexFunc_era_Check_1_P6v0 at h
  split at h
  · exact (slices_IndexFunc_era_Check_1_c6 k _ _ _ _).trans (Option.some.inj h)
  · cases h
theorem slices_IndexFunc_era_Check_1_d6 : CutOk slices_IndexFunc_era_Check_1_Λ (nthC slices_IndexFunc_era_Check_1_C 0) := by
  refine cutOk_of (L := 6) (live := [0, 1, 7, 8]) (by kernel_rfl) (by kernel_rfl) fun k vs bs r h => ?_
  change slices_IndexFunc_era_Check_1_P6 (k + 1) vs bs = some r at h
  unfold slices_IndexFunc_era_Check_1_P6 at h
  split at h
  · rename_i q hq
    exact slices_IndexFunc_era_Check_1_e6 k vs bs r (hq.trans (congrArg some h))
  cases h
theorem slices_IndexFunc_era_Check_1_cuts : ∀ p ∈ cuts Try.prog (lkΓ [(36, era_Check_1_S)]) Try.f38.ntmps [(6, [0, 1, 7, 8])] (bodyOf Try.f38) (κ0 Try.prog Try.f38 false [⟨false, .int⟩]), CutOk slices_IndexFunc_era_Check_1_Λ p := cutsOk (l := slices_IndexFunc_era_Check_1_C) (n := 1) (by kernel_rfl) fun
  | 0, _ => slices_IndexFunc_era_Check_1_d6
  | k + 1, h => absurd h (by omega)
set_option maxHeartbeats 0 in
set_option maxRecDepth 5000000 in
theorem slices_IndexFunc_era_Check_1_z6 (vs : List SV) (bs : List Blk) (q : Option (Int)) (h : slices_IndexFunc_era_Check_1_P6v0 0 vs bs = some q) : q = none := by
  unfold slices_IndexFunc_era_Check_1_P6v0 at h; split at h
  · have h := Option.some.inj h; rw [← h]; first | rfl | (unfold slices_IndexFunc_era_Check_1_L6; rfl)
  · cases h
theorem slices_IndexFunc_era_Check_1_Λ0 (L : Nat) (vs : List SV) (bs : List Blk) : slices_IndexFunc_era_Check_1_Λ 0 L vs bs = none := by
  unfold slices_IndexFunc_era_Check_1_Λ
  split
  · unfold slices_IndexFunc_era_Check_1_P6
    split
    · rename_i q hq; exact slices_IndexFunc_era_Check_1_z6 _ _ q hq
    rfl
  rfl
set_option maxRecDepth 5000000 in
theorem slices_IndexFunc_era_Check_1_run (K : Nat) (x : Tup [⟨false, (.sl .int)⟩, ⟨false, (.clo 36 (.ref (.pair .int (.sl .int))))⟩]) : (pxFn Try.prog (lkΓ [(36, era_Check_1_S)]) [(6, [0, 1, 7, 8])] Try.f38 (bodyOf Try.f38) false [⟨false, .int⟩] (encTup [⟨false, (.sl .int)⟩, ⟨false, (.clo 36 (.ref (.pair .int (.sl .int))))⟩] x)).run (slices_IndexFunc_era_Check_1_Λ K) = slices_IndexFunc_era_Check_1_K K x := by kernel_rfl
set_option maxHeartbeats 0 in
set_option maxRecDepth 5000000 in
def pool_New_P12v0 (k : Nat) (vs : List SV) (bs : List Blk) : Option (Option ((List Int × List Int × List Int × List Int) × Int)) := match vs, bs with
  | [.val (.one (.ptr 0 0)), .val (.one (.ptr 1 0)), .val (.one (.int .i64 p0)), .val (.one (.int .i64 p1))], [.box [.nil, .nil, .nil, .nil], .box [(.row 2), (.row 3), (.row 4), (.row 5)], .row .int p2, .row .int p3, .row .int p4, .row .int p5] => some (pool_New_L12 k p0 p1 p2 p3 p4 p5)
  | _, _ => none
def pool_New_P12 (k : Nat) (vs : List SV) (bs : List Blk) : Option ((List Int × List Int × List Int × List Int) × Int) := match pool_New_P12v0 k vs bs with | some r => r | none => none
def pool_New_Λ (k L : Nat) (vs : List SV) (bs : List Blk) : Option ((List Int × List Int × List Int × List Int) × Int) := match Nat.beq L 12 with | true => pool_New_P12 k vs bs | false => none
noncomputable def pool_New_C : List (Cut (Tup [⟨true, (.pair (.sl .int) (.pair (.sl .int) (.pair (.sl .int) (.sl .int))))⟩, ⟨false, .int⟩])) := cuts Try.prog (lkΓ []) Try.f16.ntmps [(12, [2, 4, 24, 25])] (bodyOf Try.f16) (κ0 Try.prog Try.f16 true [⟨true, (.pair (.sl .int) (.pair (.sl .int) (.pair (.sl .int) (.sl .int))))⟩, ⟨false, .int⟩])
set_option maxRecDepth 5000000 in
theorem pool_New_c12 (k : Nat) (p0 : Int) (p1 : Int) (p2 : List Int) (p3 : List Int) (p4 : List Int) (p5 : List Int) : ((nthC pool_New_C 0).g (mkSt [2, 4, 24, 25] [.val (.one (.ptr 0 0)), .val (.one (.ptr 1 0)), .val (.one (.int .i64 p0)), .val (.one (.int .i64 p1))] [.box [.nil, .nil, .nil, .nil], .box [(.row 2), (.row 3), (.row 4), (.row 5)], .row .int p2, .row .int p3, .row .int p4, .row .int p5])).run (pool_New_Λ k) = pool_New_L12 (k + 1) p0 p1 p2 p3 p4 p5 := by kernel_rfl
set_option maxHeartbeats 0 in
set_option maxRecDepth 5000000 in
theorem pool_New_e12 (k : Nat) (vs : List SV) (bs : List Blk) (r : ((List Int) × ((List Int) × ((List Int) × (List Int)))) × Int) (h : pool_New_P12v0 (k + 1) vs bs = some (some r)) : ((nthC pool_New_C 0).g (mkSt [2, 4, 24, 25] vs bs)).run (pool_New_Λ k) = some r := by
  unfold pool_New_P12v0 at h
  split at h
  · exact (pool_New_c12 k _ _ _ _ _ _).trans (Option.some.inj h)
  · cases h
theorem pool_New_d12 : CutOk pool_New_Λ (nthC pool_New_C 0) := by
  refine cutOk_of (L := 12) (live := [2, 4, 24, 25]) (by kernel_rfl) (by kernel_rfl) fun k vs bs r h => ?_
  change pool_New_P12 (k + 1) vs bs = some r at h
  unfold pool_New_P12 at h
  split at h
  · rename_i q hq
    exact pool_New_e12 k vs bs r (hq.trans (congrArg some h))
  cases h
theorem pool_New_cuts : ∀ p ∈ cuts Try.prog (lkΓ []) Try.f16.ntmps [(12, [2, 4, 24, 25])] (bodyOf Try.f16) (κ0 Try.prog Try.f16 true [⟨true, (.pair (.sl .int) (.pair (.sl .int) (.pair (.sl .int) (.sl .int))))⟩, ⟨false, .int⟩]), CutOk pool_New_Λ p := cutsOk (l := pool_New_C) (n := 1) (by kernel_rfl) fun
  | 0, _ => pool_New_d12
  | k + 1, h => absurd h (by omega)
set_option maxHeartbeats 0 in
set_option maxRecDepth 5000000 in
theorem pool_New_z12 (vs : List SV) (bs : List Blk) (q : Option (((List Int) × ((List Int) × ((List Int) × (List Int)))) × Int)) (h : pool_New_P12v0 0 vs bs = some q) : q = none := by
  unfold pool_New_P12v0 at h; split at h
  · have h := Option.some.inj h; rw [← h]; first | rfl | (unfold pool_New_L12; rfl)
  · cases h
theorem pool_New_Λ0 (L : Nat) (vs : List SV) (bs : List Blk) : pool_New_Λ 0 L vs bs = none := by
  unfold pool_New_Λ
  split
  · unfold pool_New_P12
    split
    · rename_i q hq; exact pool_New_z12 _ _ q hq
    rfl
  rfl
set_option maxRecDepth 5000000 in
theorem pool_New_run (K : Nat) (x : Tup [⟨false, .int⟩]) : (pxFn Try.prog (lkΓ []) [(12, [2, 4, 24, 25])] Try.f16 (bodyOf Try.f16) true [⟨true, (.pair (.sl .int) (.pair (.sl .int) (.pair (.sl .int) (.sl .int))))⟩, ⟨false, .int⟩] (encTup [⟨false, .int⟩] x)).run (pool_New_Λ K) = pool_New_K K x := by kernel_rfl
set_option maxRecDepth 5000000 in
theorem arena_Retire_run (x : Tup [⟨true, (.pair (.sl .int) (.pair (.sl .int) (.pair (.pair (.pair (.sl .int) (.pair (.sl .int) (.pair (.sl .int) (.sl .int)))) (.pair (.pair (.sl .int) (.pair (.sl .int) (.pair (.sl .int) (.sl .int)))) (.pair (.sl .int) (.pair (.sl .int) (.pair (.sl .int) (.sl .int)))))) (.pair .int (.sl .int)))))⟩, ⟨false, .int⟩, ⟨false, .int⟩]) : (pxFn Try.prog (lkΓ [(17, arena_may_S), (24, pool_Retire_S)]) [] Try.f11 (bodyOf Try.f11) false [⟨true, (.pair (.sl .int) (.pair (.sl .int) (.pair (.pair (.pair (.sl .int) (.pair (.sl .int) (.pair (.sl .int) (.sl .int)))) (.pair (.pair (.sl .int) (.pair (.sl .int) (.pair (.sl .int) (.sl .int)))) (.pair (.sl .int) (.pair (.sl .int) (.pair (.sl .int) (.sl .int)))))) (.pair .int (.sl .int)))))⟩, ⟨false, .int⟩] (encTup [⟨true, (.pair (.sl .int) (.pair (.sl .int) (.pair (.pair (.pair (.sl .int) (.pair (.sl .int) (.pair (.sl .int) (.sl .int)))) (.pair (.pair (.sl .int) (.pair (.sl .int) (.pair (.sl .int) (.sl .int)))) (.pair (.sl .int) (.pair (.sl .int) (.pair (.sl .int) (.sl .int)))))) (.pair .int (.sl .int)))))⟩, ⟨false, .int⟩, ⟨false, .int⟩] x)).run (fun _ _ _ => none) = arena_Retire x := by kernel_rfl
theorem arena_Retire_cuts : ∀ p ∈ cuts Try.prog (lkΓ [(17, arena_may_S), (24, pool_Retire_S)]) Try.f11.ntmps [] (bodyOf Try.f11) (κ0 Try.prog Try.f11 false [⟨true, (.pair (.sl .int) (.pair (.sl .int) (.pair (.pair (.pair (.sl .int) (.pair (.sl .int) (.pair (.sl .int) (.sl .int)))) (.pair (.pair (.sl .int) (.pair (.sl .int) (.pair (.sl .int) (.sl .int)))) (.pair (.sl .int) (.pair (.sl .int) (.pair (.sl .int) (.sl .int)))))) (.pair .int (.sl .int)))))⟩, ⟨false, .int⟩]), CutOk (fun _ _ _ _ => none) p := cutsNil (by kernel_rfl)
set_option maxRecDepth 5000000 in
theorem arena_Pin_run (x : Tup [⟨true, (.pair (.sl .int) (.pair (.sl .int) (.pair (.pair (.pair (.sl .int) (.pair (.sl .int) (.pair (.sl .int) (.sl .int)))) (.pair (.pair (.sl .int) (.pair (.sl .int) (.pair (.sl .int) (.sl .int)))) (.pair (.sl .int) (.pair (.sl .int) (.pair (.sl .int) (.sl .int)))))) (.pair .int (.sl .int)))))⟩, ⟨false, .int⟩]) : (pxFn Try.prog (lkΓ [(17, arena_may_S), (18, era_Pin_S)]) [] Try.f6 (bodyOf Try.f6) false [⟨true, (.pair (.sl .int) (.pair (.sl .int) (.pair (.pair (.pair (.sl .int) (.pair (.sl .int) (.pair (.sl .int) (.sl .int)))) (.pair (.pair (.sl .int) (.pair (.sl .int) (.pair (.sl .int) (.sl .int)))) (.pair (.sl .int) (.pair (.sl .int) (.pair (.sl .int) (.sl .int)))))) (.pair .int (.sl .int)))))⟩, ⟨false, .int⟩] (encTup [⟨true, (.pair (.sl .int) (.pair (.sl .int) (.pair (.pair (.pair (.sl .int) (.pair (.sl .int) (.pair (.sl .int) (.sl .int)))) (.pair (.pair (.sl .int) (.pair (.sl .int) (.pair (.sl .int) (.sl .int)))) (.pair (.sl .int) (.pair (.sl .int) (.pair (.sl .int) (.sl .int)))))) (.pair .int (.sl .int)))))⟩, ⟨false, .int⟩] x)).run (fun _ _ _ => none) = arena_Pin x := by kernel_rfl
theorem arena_Pin_cuts : ∀ p ∈ cuts Try.prog (lkΓ [(17, arena_may_S), (18, era_Pin_S)]) Try.f6.ntmps [] (bodyOf Try.f6) (κ0 Try.prog Try.f6 false [⟨true, (.pair (.sl .int) (.pair (.sl .int) (.pair (.pair (.pair (.sl .int) (.pair (.sl .int) (.pair (.sl .int) (.sl .int)))) (.pair (.pair (.sl .int) (.pair (.sl .int) (.pair (.sl .int) (.sl .int)))) (.pair (.sl .int) (.pair (.sl .int) (.pair (.sl .int) (.sl .int)))))) (.pair .int (.sl .int)))))⟩, ⟨false, .int⟩]), CutOk (fun _ _ _ _ => none) p := cutsNil (by kernel_rfl)
set_option maxRecDepth 5000000 in
theorem era_Turn_run (x : Tup [⟨true, (.pair .int (.sl .int))⟩]) : (pxFn Try.prog (lkΓ [(26, era_Check_S), (30, slices_Clone_S), (32000032, slices_ContainsFunc_era_Turn_1_S)]) [] Try.f20 (bodyOf Try.f20) true [⟨true, (.pair .int (.sl .int))⟩, ⟨false, .bool⟩] (encTup [⟨true, (.pair .int (.sl .int))⟩] x)).run (fun _ _ _ => none) = era_Turn x := by kernel_rfl
theorem era_Turn_cuts : ∀ p ∈ cuts Try.prog (lkΓ [(26, era_Check_S), (30, slices_Clone_S), (32000032, slices_ContainsFunc_era_Turn_1_S)]) Try.f20.ntmps [] (bodyOf Try.f20) (κ0 Try.prog Try.f20 true [⟨true, (.pair .int (.sl .int))⟩, ⟨false, .bool⟩]), CutOk (fun _ _ _ _ => none) p := cutsNil (by kernel_rfl)
set_option maxRecDepth 5000000 in
theorem tendrillaw07_live_run (x : Tup []) : (pxFn Try.prog (lkΓ [(5, arena_New_S), (8, arena_Turn_S), (9, arena_Take_S), (11, arena_Retire_S), (13, tendrillaw07_plain_S)]) [] Try.f4 (bodyOf Try.f4) false [⟨false, .bool⟩] (encTup [] x)).run (fun _ _ _ => none) = tendrillaw07_live x := by kernel_rfl
theorem tendrillaw07_live_cuts : ∀ p ∈ cuts Try.prog (lkΓ [(5, arena_New_S), (8, arena_Turn_S), (9, arena_Take_S), (11, arena_Retire_S), (13, tendrillaw07_plain_S)]) Try.f4.ntmps [] (bodyOf Try.f4) (κ0 Try.prog Try.f4 false [⟨false, .bool⟩]), CutOk (fun _ _ _ _ => none) p := cutsNil (by kernel_rfl)
set_option maxRecDepth 5000000 in
theorem math_bits_Mul32_run (x : Tup [⟨false, (.num .u32)⟩, ⟨false, (.num .u32)⟩]) : (pxFn Try.prog (lkΓ []) [] Try.f40 (bodyOf Try.f40) false [⟨false, (.num .u32)⟩, ⟨false, (.num .u32)⟩] (encTup [⟨false, (.num .u32)⟩, ⟨false, (.num .u32)⟩] x)).run (fun _ _ _ => none) = math_bits_Mul32 x := by kernel_rfl
theorem math_bits_Mul32_cuts : ∀ p ∈ cuts Try.prog (lkΓ []) Try.f40.ntmps [] (bodyOf Try.f40) (κ0 Try.prog Try.f40 false [⟨false, (.num .u32)⟩, ⟨false, (.num .u32)⟩]), CutOk (fun _ _ _ _ => none) p := cutsNil (by kernel_rfl)
set_option maxRecDepth 5000000 in
theorem place_Check_run (x : Tup [⟨true, (.pair .int (.pair .int (.pair .int (.pair .int .int))))⟩]) : (pxFn Try.prog (lkΓ []) [] Try.f14 (bodyOf Try.f14) false [⟨false, .int⟩] (encTup [⟨true, (.pair .int (.pair .int (.pair .int (.pair .int .int))))⟩] x)).run (fun _ _ _ => none) = place_Check x := by kernel_rfl
theorem place_Check_cuts : ∀ p ∈ cuts Try.prog (lkΓ []) Try.f14.ntmps [] (bodyOf Try.f14) (κ0 Try.prog Try.f14 false [⟨false, .int⟩]), CutOk (fun _ _ _ _ => none) p := cutsNil (by kernel_rfl)
set_option maxRecDepth 5000000 in
theorem era_Check_1_run (x : Tup [⟨false, .int⟩, ⟨false, (.ref (.pair .int (.sl .int)))⟩]) : (pxFn Try.prog (lkΓ []) [] Try.f36 (bodyOf Try.f36) false [⟨false, .bool⟩] (encTup [⟨false, .int⟩, ⟨false, (.ref (.pair .int (.sl .int)))⟩] x)).run (fun _ _ _ => none) = era_Check_1 x := by kernel_rfl
theorem era_Check_1_cuts : ∀ p ∈ cuts Try.prog (lkΓ []) Try.f36.ntmps [] (bodyOf Try.f36) (κ0 Try.prog Try.f36 false [⟨false, .bool⟩]), CutOk (fun _ _ _ _ => none) p := cutsNil (by kernel_rfl)
set_option maxRecDepth 5000000 in
theorem tag_Pack_run (x : Tup [⟨false, .int⟩, ⟨false, .int⟩]) : (pxFn Try.prog (lkΓ []) [] Try.f34 (bodyOf Try.f34) false [⟨false, .int⟩, ⟨false, .int⟩] (encTup [⟨false, .int⟩, ⟨false, .int⟩] x)).run (fun _ _ _ => none) = tag_Pack x := by kernel_rfl
theorem tag_Pack_cuts : ∀ p ∈ cuts Try.prog (lkΓ []) Try.f34.ntmps [] (bodyOf Try.f34) (κ0 Try.prog Try.f34 false [⟨false, .int⟩, ⟨false, .int⟩]), CutOk (fun _ _ _ _ => none) p := cutsNil (by kernel_rfl)
end Go.Proofs.YtkdohmgacodhjaaFn
