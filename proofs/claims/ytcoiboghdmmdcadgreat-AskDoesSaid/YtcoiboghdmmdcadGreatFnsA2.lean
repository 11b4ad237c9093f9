/- What the interpreter of code computes of these functions, part 2; no condition. -/
import Derived.Test.YtcoiboghdmmdcadGreatProg
import Derived.KernelRfl
import Derived.Test.YtcoiboghdmmdcadGreatPx25
import Derived.Test.YtcoiboghdmmdcadGreatFnsD
set_option linter.unusedVariables false
set_option linter.unusedSimpArgs false
namespace Go.Proofs.YtcoiboghdmmdcadGreatFn
open Go Go.RowKit Go.Proofs.YtcoiboghdmmdcadGreatPx
set_option maxHeartbeats 0 in
set_option maxRecDepth 5000000 in
def arena_New_P20v0 (k : Nat) (vs : List SV) (bs : List Blk) : Option (Option ((List Int × List Int × ((List Int × List Int × List Int × List Int) × (List Int × List Int × List Int × List Int) × List Int × List Int × List Int × List Int) × Int × List Int) × Int)) := match vs, bs with
  | [.val (.one (.ptr 0 0)), .val (.one (.ptr 1 0)), .val (.agg [(.int .i64 p0), (.int .i64 p1), (.int .i64 p2)]), .val (.one (.int .i64 p3))], [.box [.nil, .nil, .nil, .nil, .nil, .nil, .nil, .nil, .nil, .nil, .nil, .nil, .nil, .nil, (.int .i64 p4), .nil], .box [.nil, .nil, .nil, .nil, .nil, .nil, .nil, .nil, .nil, .nil, .nil, .nil, .nil, .nil, (.int .i64 p5), (.row 2)], .row .int p6] => some (arena_New_L20 k p0 p1 p2 p3 p4 p5 p6)
  | _, _ => none
set_option maxHeartbeats 0 in
set_option maxRecDepth 5000000 in
def arena_New_P20v1 (k : Nat) (vs : List SV) (bs : List Blk) : Option (Option ((List Int × List Int × ((List Int × List Int × List Int × List Int) × (List Int × List Int × List Int × List Int) × List Int × List Int × List Int × List Int) × Int × List Int) × Int)) := match vs, bs with
  | [.val (.one (.ptr 0 0)), .val (.one (.ptr 1 0)), .val (.agg [(.int .i64 p0), (.int .i64 p1), (.int .i64 p2)]), .val (.one (.int .i64 p3))], [.box [.nil, .nil, .nil, .nil, .nil, .nil, .nil, .nil, .nil, .nil, .nil, .nil, .nil, .nil, (.int .i64 p4), .nil], .box [.nil, .nil, .nil, .nil, .nil, .nil, .nil, .nil, .nil, .nil, (.row 2), (.row 3), (.row 4), (.row 5), (.int .i64 p5), (.row 6)], .row .int p6, .row .int p7, .row .int p8, .row .int p9, .row .int p10] => some (arena_New_L20x1 k p0 p1 p2 p3 p4 p5 p6 p7 p8 p9 p10)
  | _, _ => none
set_option maxHeartbeats 0 in
set_option maxRecDepth 5000000 in
def arena_New_P20v2 (k : Nat) (vs : List SV) (bs : List Blk) : Option (Option ((List Int × List Int × ((List Int × List Int × List Int × List Int) × (List Int × List Int × List Int × List Int) × List Int × List Int × List Int × List Int) × Int × List Int) × Int)) := match vs, bs with
  | [.val (.one (.ptr 0 0)), .val (.one (.ptr 1 0)), .val (.agg [(.int .i64 p0), (.int .i64 p1), (.int .i64 p2)]), .val (.one (.int .i64 p3))], [.box [.nil, .nil, .nil, .nil, .nil, .nil, .nil, .nil, .nil, .nil, .nil, .nil, .nil, .nil, (.int .i64 p4), .nil], .box [.nil, .nil, .nil, .nil, .nil, .nil, (.row 2), (.row 3), (.row 4), (.row 5), .nil, .nil, .nil, .nil, (.int .i64 p5), (.row 6)], .row .int p6, .row .int p7, .row .int p8, .row .int p9, .row .int p10] => some (arena_New_L20x2 k p0 p1 p2 p3 p4 p5 p6 p7 p8 p9 p10)
  | _, _ => none
set_option maxHeartbeats 0 in
set_option maxRecDepth 5000000 in
def arena_New_P20v3 (k : Nat) (vs : List SV) (bs : List Blk) : Option (Option ((List Int × List Int × ((List Int × List Int × List Int × List Int) × (List Int × List Int × List Int × List Int) × List Int × List Int × List Int × List Int) × Int × List Int) × Int)) := match vs, bs with
  | [.val (.one (.ptr 0 0)), .val (.one (.ptr 1 0)), .val (.agg [(.int .i64 p0), (.int .i64 p1), (.int .i64 p2)]), .val (.one (.int .i64 p3))], [.box [.nil, .nil, .nil, .nil, .nil, .nil, .nil, .nil, .nil, .nil, .nil, .nil, .nil, .nil, (.int .i64 p4), .nil], .box [.nil, .nil, (.row 2), (.row 3), (.row 4), (.row 5), .nil, .nil, .nil, .nil, .nil, .nil, .nil, .nil, (.int .i64 p5), (.row 6)], .row .int p6, .row .int p7, .row .int p8, .row .int p9, .row .int p10] => some (arena_New_L20x3 k p0 p1 p2 p3 p4 p5 p6 p7 p8 p9 p10)
  | _, _ => none
set_option maxHeartbeats 0 in
set_option maxRecDepth 5000000 in
def arena_New_P20v4 (k : Nat) (vs : List SV) (bs : List Blk) : Option (Option ((List Int × List Int × ((List Int × List Int × List Int × List Int) × (List Int × List Int × List Int × List Int) × List Int × List Int × List Int × List Int) × Int × List Int) × Int)) := match vs, bs with
  | [.val (.one (.ptr 0 0)), .val (.one (.ptr 1 0)), .val (.agg [(.int .i64 p0), (.int .i64 p1), (.int .i64 p2)]), .val (.one (.int .i64 p3))], [.box [.nil, .nil, .nil, .nil, .nil, .nil, .nil, .nil, .nil, .nil, .nil, .nil, .nil, .nil, (.int .i64 p4), .nil], .box [.nil, .nil, .nil, .nil, .nil, .nil, (.row 2), (.row 3), (.row 4), (.row 5), (.row 6), (.row 7), (.row 8), (.row 9), (.int .i64 p5), (.row 10)], .row .int p6, .row .int p7, .row .int p8, .row .int p9, .row .int p10, .row .int p11, .row .int p12, .row .int p13, .row .int p14] => some (arena_New_L20x4 k p0 p1 p2 p3 p4 p5 p6 p7 p8 p9 p10 p11 p12 p13 p14)
  | _, _ => none
set_option maxHeartbeats 0 in
set_option maxRecDepth 5000000 in
def arena_New_P20v5 (k : Nat) (vs : List SV) (bs : List Blk) : Option (Option ((List Int × List Int × ((List Int × List Int × List Int × List Int) × (List Int × List Int × List Int × List Int) × List Int × List Int × List Int × List Int) × Int × List Int) × Int)) := match vs, bs with
  | [.val (.one (.ptr 0 0)), .val (.one (.ptr 1 0)), .val (.agg [(.int .i64 p0), (.int .i64 p1), (.int .i64 p2)]), .val (.one (.int .i64 p3))], [.box [.nil, .nil, .nil, .nil, .nil, .nil, .nil, .nil, .nil, .nil, .nil, .nil, .nil, .nil, (.int .i64 p4), .nil], .box [.nil, .nil, (.row 2), (.row 3), (.row 4), (.row 5), .nil, .nil, .nil, .nil, (.row 6), (.row 7), (.row 8), (.row 9), (.int .i64 p5), (.row 10)], .row .int p6, .row .int p7, .row .int p8, .row .int p9, .row .int p10, .row .int p11, .row .int p12, .row .int p13, .row .int p14] => some (arena_New_L20x5 k p0 p1 p2 p3 p4 p5 p6 p7 p8 p9 p10 p11 p12 p13 p14)
  | _, _ => none
set_option maxHeartbeats 0 in
set_option maxRecDepth 5000000 in
def arena_New_P20v6 (k : Nat) (vs : List SV) (bs : List Blk) : Option (Option ((List Int × List Int × ((List Int × List Int × List Int × List Int) × (List Int × List Int × List Int × List Int) × List Int × List Int × List Int × List Int) × Int × List Int) × Int)) := match vs, bs with
  | [.val (.one (.ptr 0 0)), .val (.one (.ptr 1 0)), .val (.agg [(.int .i64 p0), (.int .i64 p1), (.int .i64 p2)]), .val (.one (.int .i64 p3))], [.box [.nil, .nil, .nil, .nil, .nil, .nil, .nil, .nil, .nil, .nil, .nil, .nil, .nil, .nil, (.int .i64 p4), .nil], .box [.nil, .nil, (.row 2), (.row 3), (.row 4), (.row 5), (.row 6), (.row 7), (.row 8), (.row 9), .nil, .nil, .nil, .nil, (.int .i64 p5), (.row 10)], .row .int p6, .row .int p7, .row .int p8, .row .int p9, .row .int p10, .row .int p11, .row .int p12, .row .int p13, .row .int p14] => some (arena_New_L20x6 k p0 p1 p2 p3 p4 p5 p6 p7 p8 p9 p10 p11 p12 p13 p14)
  | _, _ => none
set_option maxHeartbeats 0 in
set_option maxRecDepth 5000000 in
def arena_New_P20v7 (k : Nat) (vs : List SV) (bs : List Blk) : Option (Option ((List Int × List Int × ((List Int × List Int × List Int × List Int) × (List Int × List Int × List Int × List Int) × List Int × List Int × List Int × List Int) × Int × List Int) × Int)) := match vs, bs with
  | [.val (.one (.ptr 0 0)), .val (.one (.ptr 1 0)), .val (.agg [(.int .i64 p0), (.int .i64 p1), (.int .i64 p2)]), .val (.one (.int .i64 p3))], [.box [.nil, .nil, .nil, .nil, .nil, .nil, .nil, .nil, .nil, .nil, .nil, .nil, .nil, .nil, (.int .i64 p4), .nil], .box [.nil, .nil, (.row 2), (.row 3), (.row 4), (.row 5), (.row 6), (.row 7), (.row 8), (.row 9), (.row 10), (.row 11), (.row 12), (.row 13), (.int .i64 p5), (.row 14)], .row .int p6, .row .int p7, .row .int p8, .row .int p9, .row .int p10, .row .int p11, .row .int p12, .row .int p13, .row .int p14, .row .int p15, .row .int p16, .row .int p17, .row .int p18] => some (arena_New_L20x7 k p0 p1 p2 p3 p4 p5 p6 p7 p8 p9 p10 p11 p12 p13 p14 p15 p16 p17 p18)
  | _, _ => none
def arena_New_P20 (k : Nat) (vs : List SV) (bs : List Blk) : Option ((List Int × List Int × ((List Int × List Int × List Int × List Int) × (List Int × List Int × List Int × List Int) × List Int × List Int × List Int × List Int) × Int × List Int) × Int) := match arena_New_P20v0 k vs bs with | some r => r | none => match arena_New_P20v1 k vs bs with | some r => r | none => match arena_New_P20v2 k vs bs with | some r => r | none => match arena_New_P20v3 k vs bs with | some r => r | none => match arena_New_P20v4 k vs bs with | some r => r | none => match arena_New_P20v5 k vs bs with | some r => r | none => match arena_New_P20v6 k vs bs with | some r => r | none => match arena_New_P20v7 k vs bs with | some r => r | none => none
def arena_New_Λ (k L : Nat) (vs : List SV) (bs : List Blk) : Option ((List Int × List Int × ((List Int × List Int × List Int × List Int) × (List Int × List Int × List Int × List Int) × List Int × List Int × List Int × List Int) × Int × List Int) × Int) := match Nat.beq L 20 with | true => arena_New_P20 k vs bs | false => none
noncomputable def arena_New_C : List (Cut (Tup [⟨true, (.pair (.sl .int) (.pair (.sl .int) (.pair (.pair (.pair (.sl .int) (.pair (.sl .int) (.pair (.sl .int) (.sl .int)))) (.pair (.pair (.sl .int) (.pair (.sl .int) (.pair (.sl .int) (.sl .int)))) (.pair (.sl .int) (.pair (.sl .int) (.pair (.sl .int) (.sl .int)))))) (.pair .int (.sl .int)))))⟩, ⟨false, .int⟩])) := cuts Tryz.prog (lkΓ [(32, place_Check_S), (69, era_New_S), (70, pool_New_S)]) Tryz.f28.ntmps [(20, [4, 9, 35, 36])] (bodyOf Tryz.f28) (κ0 Tryz.prog Tryz.f28 true [⟨true, (.pair (.sl .int) (.pair (.sl .int) (.pair (.pair (.pair (.sl .int) (.pair (.sl .int) (.pair (.sl .int) (.sl .int)))) (.pair (.pair (.sl .int) (.pair (.sl .int) (.pair (.sl .int) (.sl .int)))) (.pair (.sl .int) (.pair (.sl .int) (.pair (.sl .int) (.sl .int)))))) (.pair .int (.sl .int)))))⟩, ⟨false, .int⟩])
set_option maxRecDepth 5000000 in
theorem arena_New_c20 (k : Nat) (p0 : Int) (p1 : Int) (p2 : Int) (p3 : Int) (p4 : Int) (p5 : Int) (p6 : List Int) : ((nthC arena_New_C 0).g (mkSt [4, 9, 35, 36] [.val (.one (.ptr 0 0)), .val (.one (.ptr 1 0)), .val (.agg [(.int .i64 p0), (.int .i64 p1), (.int .i64 p2)]), .val (.one (.int .i64 p3))] [.box [.nil, .nil, .nil, .nil, .nil, .nil, .nil, .nil, .nil, .nil, .nil, .nil, .nil, .nil, (.int .i64 p4), .nil], .box [.nil, .nil, .nil, .nil, .nil, .nil, .nil, .nil, .nil, .nil, .nil, .nil, .nil, .nil, (.int .i64 p5), (.row 2)], .row .int p6])).run (arena_New_Λ k) = arena_New_L20 (k + 1) p0 p1 p2 p3 p4 p5 p6 := by kernel_rfl
set_option maxHeartbeats 0 in
set_option maxRecDepth 5000000 in
theorem arena_New_e20 (k : Nat) (vs : List SV) (bs : List Blk) (r : ((List Int) × ((List Int) × ((((List Int) × ((List Int) × ((List Int) × (List Int)))) × (((List Int) × ((List Int) × ((List Int) × (List Int)))) × ((List Int) × ((List Int) × ((List Int) × (List Int)))))) × (Int × (List Int))))) × Int) (h : arena_New_P20v0 (k + 1) vs bs = some (some r)) : ((nthC arena_New_C 0).g (mkSt [4, 9, 35, 36] vs bs)).run (arena_New_Λ k) = some r := by
  unfold arena_New_P20v0 at h
  split at h
  · exact (arena_New_c20 k _ _ _ _ _ _ _).trans (Option.some.inj h)
  · cases h
set_option maxRecDepth 5000000 in
theorem arena_New_c20x1 (k : Nat) (p0 : Int) (p1 : Int) (p2 : Int) (p3 : Int) (p4 : Int) (p5 : Int) (p6 : List Int) (p7 : List Int) (p8 : List Int) (p9 : List Int) (p10 : List Int) : ((nthC arena_New_C 0).g (mkSt [4, 9, 35, 36] [.val (.one (.ptr 0 0)), .val (.one (.ptr 1 0)), .val (.agg [(.int .i64 p0), (.int .i64 p1), (.int .i64 p2)]), .val (.one (.int .i64 p3))] [.box [.nil, .nil, .nil, .nil, .nil, .nil, .nil, .nil, .nil, .nil, .nil, .nil, .nil, .nil, (.int .i64 p4), .nil], .box [.nil, .nil, .nil, .nil, .nil, .nil, .nil, .nil, .nil, .nil, (.row 2), (.row 3), (.row 4), (.row 5), (.int .i64 p5), (.row 6)], .row .int p6, .row .int p7, .row .int p8, .row .int p9, .row .int p10])).run (arena_New_Λ k) = arena_New_L20x1 (k + 1) p0 p1 p2 p3 p4 p5 p6 p7 p8 p9 p10 := by kernel_rfl
set_option maxHeartbeats 0 in
set_option maxRecDepth 5000000 in
theorem arena_New_e20x1 (k : Nat) (vs : List SV) (bs : List Blk) (r : ((List Int) × ((List Int) × ((((List Int) × ((List Int) × ((List Int) × (List Int)))) × (((List Int) × ((List Int) × ((List Int) × (List Int)))) × ((List Int) × ((List Int) × ((List Int) × (List Int)))))) × (Int × (List Int))))) × Int) (h : arena_New_P20v1 (k + 1) vs bs = some (some r)) : ((nthC arena_New_C 0).g (mkSt [4, 9, 35, 36] vs bs)).run (arena_New_Λ k) = some r := by
  unfold arena_New_P20v1 at h
  split at h
  · exact (arena_New_c20x1 k _ _ _ _ _ _ _ _ _ _ _).trans (Option.some.inj h)
  · cases h
set_option maxRecDepth 5000000 in
theorem arena_New_c20x2 (k : Nat) (p0 : Int) (p1 : Int) (p2 : Int) (p3 : Int) (p4 : Int) (p5 : Int) (p6 : List Int) (p7 : List Int) (p8 : List Int) (p9 : List Int) (p10 : List Int) : ((nthC arena_New_C 0).g (mkSt [4, 9, 35, 36] [.val (.one (.ptr 0 0)), .val (.one (.ptr 1 0)), .val (.agg [(.int .i64 p0), (.int .i64 p1), (.int .i64 p2)]), .val (.one (.int .i64 p3))] [.box [.nil, .nil, .nil, .nil, .nil, .nil, .nil, .nil, .nil, .nil, .nil, .nil, .nil, .nil, (.int .i64 p4), .nil], .box [.nil, .nil, .nil, .nil, .nil, .nil, (.row 2), (.row 3), (.row 4), (.row 5), .nil, .nil, .nil, .nil, (.int .i64 p5), (.row 6)], .row .int p6, .row .int p7, .row .int p8, .row .int p9, .row .int p10])).run (arena_New_Λ k) = arena_New_L20x2 (k + 1) p0 p1 p2 p3 p4 p5 p6 p7 p8 p9 p10 := by kernel_rfl
set_option maxHeartbeats 0 in
set_option maxRecDepth 5000000 in
theorem arena_New_e20x2 (k : Nat) (vs : List SV) (bs : List Blk) (r : ((List Int) × ((List Int) × ((((List Int) × ((List Int) × ((List Int) × (List Int)))) × (((List Int) × ((List Int) × ((List Int) × (List Int)))) × ((List Int) × ((List Int) × ((List Int) × (List Int)))))) × (Int × (List Int))))) × Int) (h : arena_New_P20v2 (k + 1) vs bs = some (some r)) : ((nthC arena_New_C 0).g (mkSt [4, 9, 35, 36] vs bs)).run (arena_New_Λ k) = some r := by
  unfold arena_New_P20v2 at h
  split at h
  · exact (arena_New_c20x2 k _ _ _ _ _ _ _ _ _ _ _).trans (Option.some.inj h)
  · cases h
set_option maxRecDepth 5000000 in
theorem arena_New_c20x3 (k : Nat) (p0 : Int) (p1 : Int) (p2 : Int) (p3 : Int) (p4 : Int) (p5 : Int) (p6 : List Int) (p7 : List Int) (p8 : List Int) (p9 : List Int) (p10 : List Int) : ((nthC arena_New_C 0).g (mkSt [4, 9, 35, 36] [.val (.one (.ptr 0 0)), .val (.one (.ptr 1 0)), .val (.agg [(.int .i64 p0), (.int .i64 p1), (.int .i64 p2)]), .val (.one (.int .i64 p3))] [.box [.nil, .nil, .nil, .nil, .nil, .nil, .nil, .nil, .nil, .nil, .nil, .nil, .nil, .nil, (.int .i64 p4), .nil], .box [.nil, .nil, (.row 2), (.row 3), (.row 4), (.row 5), .nil, .nil, .nil, .nil, .nil, .nil, .nil, .nil, (.int .i64 p5), (.row 6)], .row .int p6, .row .int p7, .row .int p8, .row .int p9, .row .int p10])).run (arena_New_Λ k) = arena_New_L20x3 (k + 1) p0 p1 p2 p3 p4 p5 p6 p7 p8 p9 p10 := by kernel_rfl
set_option maxHeartbeats 0 in
set_option maxRecDepth 5000000 in
theorem arena_New_e20x3 (k : Nat) (vs : List SV) (bs : List Blk) (r : ((List Int) × ((List Int) × ((((List Int) × ((List Int) × ((List Int) × (List Int)))) × (((List Int) × ((List Int) × ((List Int) × (List Int)))) × ((List Int) × ((List Int) × ((List Int) × (List Int)))))) × (Int × (List Int))))) × Int) (h : arena_New_P20v3 (k + 1) vs bs = some (some r)) : ((nthC arena_New_C 0).g (mkSt [4, 9, 35, 36] vs bs)).run (arena_New_Λ k) = some r := by
  unfold arena_New_P20v3 at h
  split at h
  · exact (arena_New_c20x3 k _ _ _ _ _ _ _ _ _ _ _).trans (Option.some.inj h)
  · cases h
set_option maxRecDepth 5000000 in
theorem arena_New_c20x4 (k : Nat) (p0 : Int) (p1 : Int) (p2 : Int) (p3 : Int) (p4 : Int) (p5 : Int) (p6 : List Int) (p7 : List Int) (p8 : List Int) (p9 : List Int) (p10 : List Int) (p11 : List Int) (p12 : List Int) (p13 : List Int) (p14 : List Int) : ((nthC arena_New_C 0).g (mkSt [4, 9, 35, 36] [.val (.one (.ptr 0 0)), .val (.one (.ptr 1 0)), .val (.agg [(.int .i64 p0), (.int .i64 p1), (.int .i64 p2)]), .val (.one (.int .i64 p3))] [.box [.nil, .nil, .nil, .nil, .nil, .nil, .nil, .nil, .nil, .nil, .nil, .nil, .nil, .nil, (.int .i64 p4), .nil], .box [.nil, .nil, .nil, .nil, .nil, .nil, (.row 2), (.row 3), (.row 4), (.row 5), (.row 6), (.row 7), (.row 8), (.row 9), (.int .i64 p5), (.row 10)], .row .int p6, .row .int p7, .row .int p8, .row .int p9, .row .int p10, .row .int p11, .row .int p12, .row .int p13, .row .int p14])).run (arena_New_Λ k) = arena_New_L20x4 (k + 1) p0 p1 p2 p3 p4 p5 p6 p7 p8 p9 p10 p11 p12 p13 p14 := by kernel_rfl
set_option maxHeartbeats 0 in
set_option maxRecDepth 5000000 in
theorem arena_New_e20x4 (k : Nat) (vs : List SV) (bs : List Blk) (r : ((List Int) × ((List Int) × ((((List Int) × ((List Int) × ((List Int) × (List Int)))) × (((List Int) × ((List Int) × ((List Int) × (List Int)))) × ((List Int) × ((List Int) × ((List Int) × (List Int)))))) × (Int × (List Int))))) × Int) (h : arena_New_P20v4 (k + 1) vs bs = some (some r)) : ((nthC arena_New_C 0).g (mkSt [4, 9, 35, 36] vs bs)).run (arena_New_Λ k) = some r := by
  unfold arena_New_P20v4 at h
  split at h
  · exact (arena_New_c20x4 k _ _ _ _ _ _ _ _ _ _ _ _ _ _ _).trans (Option.some.inj h)
  · cases h
set_option maxRecDepth 5000000 in
theorem arena_New_c20x5 (k : Nat) (p0 : Int) (p1 : Int) (p2 : Int) (p3 : Int) (p4 : Int) (p5 : Int) (p6 : List Int) (p7 : List Int) (p8 : List Int) (p9 : List Int) (p10 : List Int) (p11 : List Int) (p12 : List Int) (p13 : List Int) (p14 : List Int) : ((nthC arena_New_C 0).g (mkSt [4, 9, 35, 36] [.val (.one (.ptr 0 0)), .val (.one (.ptr 1 0)), .val (.agg [(.int .i64 p0), (.int .i64 p1), (.int .i64 p2)]), .val (.one (.int .i64 p3))] [.box [.nil, .nil, .nil, .nil, .nil, .nil, .nil, .nil, .nil, .nil, .nil, .nil, .nil, .nil, (.int .i64 p4), .nil], .box [.nil, .nil, (.row 2), (.row 3), (.row 4), (.row 5), .nil, .nil, .nil, .nil, (.row 6), (.row 7), (.row 8), (.row 9), (.int .i64 p5), (.row 10)], .row .int p6, .row .int p7, .row .int p8, .row .int p9, .row .int p10, .row .int p11, .row .int p12, .row .int p13, .row .int p14])).run (arena_New_Λ k) = arena_New_L20x5 (k + 1) p0 p1 p2 p3 p4 p5 p6 p7 p8 p9 p10 p11 p12 p13 p14 := by kernel_rfl
set_option maxHeartbeats 0 in
set_option maxRecDepth 5000000 in
theorem arena_New_e20x5 (k : Nat) (vs : List SV) (bs : List Blk) (r : ((List Int) × ((List Int) × ((((List Int) × ((List Int) × ((List Int) × (List Int)))) × (((List Int) × ((List Int) × ((List Int) × (List Int)))) × ((List Int) × ((List Int) × ((List Int) × (List Int)))))) × (Int × (List Int))))) × Int) (h : arena_New_P20v5 (k + 1) vs bs = some (some r)) : ((nthC arena_New_C 0).g (mkSt [4, 9, 35, 36] vs bs)).run (arena_New_Λ k) = some r := by
  unfold arena_New_P20v5 at h
  split at h
  · exact (arena_New_c20x5 k _ _ _ _ _ _ _ _ _ _ _ _ _ _ _).trans (Option.some.inj h)
  · cases h
set_option maxRecDepth 5000000 in
theorem arena_New_c20x6 (k : Nat) (p0 : Int) (p1 : Int) (p2 : Int) (p3 : Int) (p4 : Int) (p5 : Int) (p6 : List Int) (p7 : List Int) (p8 : List Int) (p9 : List Int) (p10 : List Int) (p11 : List Int) (p12 : List Int) (p13 : List Int) (p14 : List Int) : ((nthC arena_New_C 0).g (mkSt [4, 9, 35, 36] [.val (.one (.ptr 0 0)), .val (.one (.ptr 1 0)), .val (.agg [(.int .i64 p0), (.int .i64 p1), (.int .i64 p2)]), .val (.one (.int .i64 p3))] [.box [.nil, .nil, .nil, .nil, .nil, .nil, .nil, .nil, .nil, .nil, .nil, .nil, .nil, .nil, (.int .i64 p4), .nil], .box [.nil, .nil, (.row 2), (.row 3), (.row 4), (.row 5), (.row 6), (.row 7), (.row 8), (.row 9), .nil, .nil, .nil, .nil, (.int .i64 p5), (.row 10)], .row .int p6, .row .int p7, .row .int p8, .row .int p9, .row .int p10, .row .int p11, .row .int p12, .row .int p13, .row .int p14])).run (arena_New_Λ k) = arena_New_L20x6 (k + 1) p0 p1 p2 p3 p4 p5 p6 p7 p8 p9 p10 p11 p12 p13 p14 := by kernel_rfl
set_option maxHeartbeats 0 in
set_option maxRecDepth 5000000 in
theorem arena_New_e20x6 (k : Nat) (vs : List SV) (bs : List Blk) (r : ((List Int) × ((List Int) × ((((List Int) × ((List Int) × ((List Int) × (List Int)))) × (((List Int) × ((List Int) × ((List Int) × (List Int)))) × ((List Int) × ((List Int) × ((List Int) × (List Int)))))) × (Int × (List Int))))) × Int) (h : arena_New_P20v6 (k + 1) vs bs = some (some r)) : ((nthC arena_New_C 0).g (mkSt [4, 9, 35, 36] vs bs)).run (arena_New_Λ k) = some r := by
  unfold arena_New_P20v6 at h
  split at h
  · exact (arena_New_c20x6 k _ _ _ _ _ _ _ _ _ _ _ _ _ _ _).trans (Option.some.inj h)
  · cases h
set_option maxRecDepth 5000000 in
theorem arena_New_c20x7 (k : Nat) (p0 : Int) (p1 : Int) (p2 : Int) (p3 : Int) (p4 : Int) (p5 : Int) (p6 : List Int) (p7 : List Int) (p8 : List Int) (p9 : List Int) (p10 : List Int) (p11 : List Int) (p12 : List Int) (p13 : List Int) (p14 : List Int) (p15 : List Int) (p16 : List Int) (p17 : List Int) (p18 : List Int) : ((nthC arena_New_C 0).g (mkSt [4, 9, 35, 36] [.val (.one (.ptr 0 0)), .val (.one (.ptr 1 0)), .val (.agg [(.int .i64 p0), (.int .i64 p1), (.int .i64 p2)]), .val (.one (.int .i64 p3))] [.box [.nil, .nil, .nil, .nil, .nil, .nil, .nil, .nil, .nil, .nil, .nil, .nil, .nil, .nil, (.int .i64 p4), .nil], .box [.nil, .nil, (.row 2), (.row 3), (.row 4), (.row 5), (.row 6), (.row 7), (.row 8), (.row 9), (.row 10), (.row 11), (.row 12), (.row 13), (.int .i64 p5), (.row 14)], .row .int p6, .row .int p7, .row .int p8, .row .int p9, .row .int p10, .row .int p11, .row .int p12, .row .int p13, .row .int p14, .row .int p15, .row .int p16, .row .int p17, .row .int p18])).run (arena_New_Λ k) = arena_New_L20x7 (k + 1) p0 p1 p2 p3 p4 p5 p6 p7 p8 p9 p10 p11 p12 p13 p14 p15 p16 p17 p18 := by kernel_rfl
set_option maxHeartbeats 0 in
set_option maxRecDepth 5000000 in
theorem arena_New_e20x7 (k : Nat) (vs : List SV) (bs : List Blk) (r : ((List Int) × ((List Int) × ((((List Int) × ((List Int) × ((List Int) × (List Int)))) × (((List Int) × ((List Int) × ((List Int) × (List Int)))) × ((List Int) × ((List Int) × ((List Int) × (List Int)))))) × (Int × (List Int))))) × Int) (h : arena_New_P20v7 (k + 1) vs bs = some (some r)) : ((nthC arena_New_C 0).g (mkSt [4, 9, 35, 36] vs bs)).run (arena_New_Λ k) = some r := by
  unfold arena_New_P20v7 at h
  split at h
  · exact (arena_New_c20x7 k _ _ _ _ _ _ _ _ _ _ _ _ _ _ _ _ _ _ _).trans (Option.some.inj h)
  · cases h
theorem arena_New_d20 : CutOk arena_New_Λ (nthC arena_New_C 0) := by
  refine cutOk_of (L := 20) (live := [4, 9, 35, 36]) (by kernel_rfl) (by kernel_rfl) fun k vs bs r h => ?_
  change arena_New_P20 (k + 1) vs bs = some r at h
  unfold arena_New_P20 at h
  split at h
  · rename_i q hq
    exact arena_New_e20 k vs bs r (hq.trans (congrArg some h))
  split at h
  · rename_i q hq
    exact arena_New_e20x1 k vs bs r (hq.trans (congrArg some h))
  split at h
  · rename_i q hq
    exact arena_New_e20x2 k vs bs r (hq.trans (congrArg some h))
  split at h
  · rename_i q hq
    exact arena_New_e20x3 k vs bs r (hq.trans (congrArg some h))
  split at h
  · rename_i q hq
    exact arena_New_e20x4 k vs bs r (hq.trans (congrArg some h))
  split at h
  · rename_i q hq
    exact arena_New_e20x5 k vs bs r (hq.trans (congrArg some h))
  split at h
  · rename_i q hq
    exact arena_New_e20x6 k vs bs r (hq.trans (congrArg some h))
  split at h
  · rename_i q hq
    exact arena_New_e20x7 k vs bs r (hq.trans (congrArg some h))
  cases h
theorem arena_New_cuts : ∀ p ∈ cuts Tryz.prog (lkΓ [(32, place_Check_S), (69, era_New_S), (70, pool_New_S)]) Tryz.f28.ntmps [(20, [4, 9, 35, 36])] (bodyOf Tryz.f28) (κ0 Tryz.prog Tryz.f28 true [⟨true, (.pair (.sl .int) (.pair (.sl .int) (.pair (.pair (.pair (.sl .int) (.pair (.sl .int) (.pair (.sl .int) (.sl .int)))) (.pair (.pair (.sl .int) (.pair (.sl .int) (.pair (.sl .int) (.sl .int)))) (.pair (.sl .int) (.pair (.sl .int) (.pair (.sl .int) (.sl .int)))))) (.pair .int (.sl .int)))))⟩, ⟨false, .int⟩]), CutOk arena_New_Λ p := cutsOk (l := arena_New_C) (n := 1) (by kernel_rfl) fun
  | 0, _ => arena_New_d20
  | k + 1, h => absurd h (by omega)
set_option maxHeartbeats 0 in
set_option maxRecDepth 5000000 in
theorem arena_New_z20 (vs : List SV) (bs : List Blk) (q : Option (((List Int) × ((List Int) × ((((List Int) × ((List Int) × ((List Int) × (List Int)))) × (((List Int) × ((List Int) × ((List Int) × (List Int)))) × ((List Int) × ((List Int) × ((List Int) × (List Int)))))) × (Int × (List Int))))) × Int)) (h : arena_New_P20v0 0 vs bs = some q) : q = none := by
  unfold arena_New_P20v0 at h; split at h
  · have h := Option.some.inj h; rw [← h]; first | rfl | (unfold arena_New_L20; rfl)
  · cases h
set_option maxHeartbeats 0 in
set_option maxRecDepth 5000000 in
theorem arena_New_z20x1 (vs : List SV) (bs : List Blk) (q : Option (((List Int) × ((List Int) × ((((List Int) × ((List Int) × ((List Int) × (List Int)))) × (((List Int) × ((List Int) × ((List Int) × (List Int)))) × ((List Int) × ((List Int) × ((List Int) × (List Int)))))) × (Int × (List Int))))) × Int)) (h : arena_New_P20v1 0 vs bs = some q) : q = none := by
  unfold arena_New_P20v1 at h; split at h
  · have h := Option.some.inj h; rw [← h]; first | rfl | (unfold arena_New_L20x1; rfl)
  · cases h
set_option maxHeartbeats 0 in
set_option maxRecDepth 5000000 in
theorem arena_New_z20x2 (vs : List SV) (bs : List Blk) (q : Option (((List Int) × ((List Int) × ((((List Int) × ((List Int) × ((List Int) × (List Int)))) × (((List Int) × ((List Int) × ((List Int) × (List Int)))) × ((List Int) × ((List Int) × ((List Int) × (List Int)))))) × (Int × (List Int))))) × Int)) (h : arena_New_P20v2 0 vs bs = some q) : q = none := by
  unfold arena_New_P20v2 at h; split at h
  · have h := Option.some.inj h; rw [← h]; first | rfl | (unfold arena_New_L20x2; rfl)
  · cases h
set_option maxHeartbeats 0 in
set_option maxRecDepth 5000000 in
theorem arena_New_z20x3 (vs : List SV) (bs : List Blk) (q : Option (((List Int) × ((List Int) × ((((List Int) × ((List Int) × ((List Int) × (List Int)))) × (((List Int) × ((List Int) × ((List Int) × (List Int)))) × ((List Int) × ((List Int) × ((List Int) × (List Int)))))) × (Int × (List Int))))) × Int)) (h : arena_New_P20v3 0 vs bs = some q) : q = none := by
  unfold arena_New_P20v3 at h; split at h
  · have h := Option.some.inj h; rw [← h]; first | rfl | (unfold arena_New_L20x3; rfl)
  · cases h
set_option maxHeartbeats 0 in
set_option maxRecDepth 5000000 in
theorem arena_New_z20x4 (vs : List SV) (bs : List Blk) (q : Option (((List Int) × ((List Int) × ((((List Int) × ((List Int) × ((List Int) × (List Int)))) × (((List Int) × ((List Int) × ((List Int) × (List Int)))) × ((List Int) × ((List Int) × ((List Int) × (List Int)))))) × (Int × (List Int))))) × Int)) (h : arena_New_P20v4 0 vs bs = some q) : q = none := by
  unfold arena_New_P20v4 at h; split at h
  · have h := Option.some.inj h; rw [← h]; first | rfl | (unfold arena_New_L20x4; rfl)
  · cases h
set_option maxHeartbeats 0 in
set_option maxRecDepth 5000000 in
theorem arena_New_z20x5 (vs : List SV) (bs : List Blk) (q : Option (((List Int) × ((List Int) × ((((List Int) × ((List Int) × ((List Int) × (List Int)))) × (((List Int) × ((List Int) × ((List Int) × (List Int)))) × ((List Int) × ((List Int) × ((List Int) × (List Int)))))) × (Int × (List Int))))) × Int)) (h : arena_New_P20v5 0 vs bs = some q) : q = none := by
  unfold arena_New_P20v5 at h; split at h
  · have h := Option.some.inj h; rw [← h]; first | rfl | (unfold arena_New_L20x5; rfl)
  · cases h
set_option maxHeartbeats 0 in
set_option maxRecDepth 5000000 in
theorem arena_New_z20x6 (vs : List SV) (bs : List Blk) (q : Option (((List Int) × ((List Int) × ((((List Int) × ((List Int) × ((List Int) × (List Int)))) × (((List Int) × ((List Int) × ((List Int) × (List Int)))) × ((List Int) × ((List Int) × ((List Int) × (List Int)))))) × (Int × (List Int))))) × Int)) (h : arena_New_P20v6 0 vs bs = some q) : q = none := by
  unfold arena_New_P20v6 at h; split at h
  · have h := Option.some.inj h; rw [← h]; first | rfl | (unfold arena_New_L20x6; rfl)
  · cases h
set_option maxHeartbeats 0 in
set_option maxRecDepth 5000000 in
theorem arena_New_z20x7 (vs : List SV) (bs : List Blk) (q : Option (((List Int) × ((List Int) × ((((List Int) × ((List Int) × ((List Int) × (List Int)))) × (((List Int) × ((List Int) × ((List Int) × (List Int)))) × ((List Int) × ((List Int) × ((List Int) × (List Int)))))) × (Int × (List Int))))) × Int)) (h : arena_New_P20v7 0 vs bs = some q) : q = none := by
  unfold arena_New_P20v7 at h; split at h
  · have h := Option.some.inj h; rw [← h]; first | rfl | (unfold arena_New_L20x7; rfl)
  · cases h
theorem arena_New_Λ0 (L : Nat) (vs : List SV) (bs : List Blk) : arena_New_Λ 0 L vs bs = none := by
  unfold arena_New_Λ
  split
  · unfold arena_New_P20
    split
    · rename_i q hq; exact arena_New_z20 _ _ q hq
    split
    · rename_i q hq; exact arena_New_z20x1 _ _ q hq
    split
    · rename_i q hq; exact arena_New_z20x2 _ _ q hq
    split
    · rename_i q hq; exact arena_New_z20x3 _ _ q hq
    split
    · rename_i q hq; exact arena_New_z20x4 _ _ q hq
    split
    · rename_i q hq; exact arena_New_z20x5 _ _ q hq
    split
    · rename_i q hq; exact arena_New_z20x6 _ _ q hq
    split
    · rename_i q hq; exact arena_New_z20x7 _ _ q hq
    rfl
  rfl
set_option maxRecDepth 5000000 in
theorem arena_New_run (K : Nat) (x : Tup [⟨true, (.pair .int (.pair .int (.pair .int (.pair .int .int))))⟩, ⟨false, .int⟩]) : (pxFn Tryz.prog (lkΓ [(32, place_Check_S), (69, era_New_S), (70, pool_New_S)]) [(20, [4, 9, 35, 36])] Tryz.f28 (bodyOf Tryz.f28) true [⟨true, (.pair (.sl .int) (.pair (.sl .int) (.pair (.pair (.pair (.sl .int) (.pair (.sl .int) (.pair (.sl .int) (.sl .int)))) (.pair (.pair (.sl .int) (.pair (.sl .int) (.pair (.sl .int) (.sl .int)))) (.pair (.sl .int) (.pair (.sl .int) (.pair (.sl .int) (.sl .int)))))) (.pair .int (.sl .int)))))⟩, ⟨false, .int⟩] (encTup [⟨true, (.pair .int (.pair .int (.pair .int (.pair .int .int))))⟩, ⟨false, .int⟩] x)).run (arena_New_Λ K) = arena_New_K K x := by kernel_rfl
set_option maxHeartbeats 0 in
set_option maxRecDepth 5000000 in
def pool_New_P12v0 (k : Nat) (vs : List SV) (bs : List Blk) : Option (Option ((List Int × List Int × List Int × List Int) × Int)) := match vs, bs with
  | [.val (.one (.ptr 0 0)), .val (.one (.ptr 1 0)), .val (.one (.int .i64 p0)), .val (.one (.int .i64 p1))], [.box [.nil, .nil, .nil, .nil], .box [(.row 2), (.row 3), (.row 4), (.row 5)], .row .int p2, .row .int p3, .row .int p4, .row .int p5] => some (pool_New_L12 k p0 p1 p2 p3 p4 p5)
  | _, _ => none
def pool_New_P12 (k : Nat) (vs : List SV) (bs : List Blk) : Option ((List Int × List Int × List Int × List Int) × Int) := match pool_New_P12v0 k vs bs with | some r => r | none => none
def pool_New_Λ (k L : Nat) (vs : List SV) (bs : List Blk) : Option ((List Int × List Int × List Int × List Int) × Int) := match Nat.beq L 12 with | true => pool_New_P12 k vs bs | false => none
noncomputable def pool_New_C : List (Cut (Tup [⟨true, (.pair (.sl .int) (.pair (.sl .int) (.pair (.sl .int) (.sl .int))))⟩, ⟨false, .int⟩])) := cuts Tryz.prog (lkΓ []) Tryz.f70.ntmps [(12, [2, 4, 24, 25])] (bodyOf Tryz.f70) (κ0 Tryz.prog Tryz.f70 true [⟨true, (.pair (.sl .int) (.pair (.sl .int) (.pair (.sl .int) (.sl .int))))⟩, ⟨false, .int⟩])
set_option maxRecDepth 5000000 in
theorem pool_New_c12 (k : Nat) (p0 : Int) (p1 : Int) (p2 : List Int) (p3 : List Int) (p4 : List Int) (p5 : List Int) : ((nthC pool_New_C 0).g (mkSt [2, 4, 24, 25] [.val (.one (.ptr 0 0)), .val (.one (.ptr 1 0)), .val (.one (.int .i64 p0)), .val (.one (.int .i64 p1))] [.box [.nil, .nil, .nil, .nil], .box [(.row 2), (.row 3), (.row 4), (.row 5)], .row .int p2, .row .int p3, .row .int p4, .row .int p5])).run (pool_New_Λ k) = pool_New_L12 (k + 1) p0 p1 p2 p3 p4 p5 := by kernel_rfl
set_option maxHeartbeats 0 in
set_option maxRecDepth 5000000 in
theorem pool_New_e12 (k : Nat) (vs : List SV) (bs : List Blk) (r : ((List Int) × ((List Int) × ((List Int) × (List Int)))) × Int) (h : pool_New_P12v0 (k + 1) vs bs = some (some r)) : ((nthC pool_New_C 0).g (mkSt [2, 4, 24, 25] vs bs)).run (pool_New_Λ k) = some r := by
  unfold pool_New_P12v0 at h
  split at h
  · exact (pool_New_c12 k _ _ _ _ _ _).trans (Option.some.inj h)
  · cases h
theorem pool_New_d12 : CutOk pool_New_Λ (nthC pool_New_C 0) := by
  refine cutOk_of (L := 12) (live := [2, 4, 24, 25]) (by kernel_rfl) (by kernel_rfl) fun k vs bs r h => ?_
  change pool_New_P12 (k + 1) vs bs = some r at h
  unfold pool_New_P12 at h
  split at h
  · rename_i q hq
    exact pool_New_e12 k vs bs r (hq.trans (congrArg some h))
  cases h
theorem pool_New_cuts : ∀ p ∈ cuts Tryz.prog (lkΓ []) Tryz.f70.ntmps [(12, [2, 4, 24, 25])] (bodyOf Tryz.f70) (κ0 Tryz.prog Tryz.f70 true [⟨true, (.pair (.sl .int) (.pair (.sl .int) (.pair (.sl .int) (.sl .int))))⟩, ⟨false, .int⟩]), CutOk pool_New_Λ p := cutsOk (l := pool_New_C) (n := 1) (by kernel_rfl) fun
  | 0, _ => pool_New_d12
  | k + 1, h => absurd h (by omega)
set_option maxHeartbeats 0 in
set_option maxRecDepth 5000000 in
theorem pool_New_z12 (vs : List SV) (bs : List Blk) (q : Option (((List Int) × ((List Int) × ((List Int) × (List Int)))) × Int)) (h : pool_New_P12v0 0 vs bs = some q) : q = none := by
  unfold pool_New_P12v0 at h; split at h
  · have h := Option.some.inj h; rw [← h]; first | rfl | (unfold pool_New_L12; rfl)
  · cases h
theorem pool_New_Λ0 (L : Nat) (vs : List SV) (bs : List Blk) : pool_New_Λ 0 L vs bs = none := by
  unfold pool_New_Λ
  split
  · unfold pool_New_P12
    split
    · rename_i q hq; exact pool_New_z12 _ _ q hq
    rfl
  rfl
set_option maxRecDepth 5000000 in
theorem pool_New_run (K : Nat) (x : Tup [⟨false, .int⟩]) : (pxFn Tryz.prog (lkΓ []) [(12, [2, 4, 24, 25])] Tryz.f70 (bodyOf Tryz.f70) true [⟨true, (.pair (.sl .int) (.pair (.sl .int) (.pair (.sl .int) (.sl .int))))⟩, ⟨false, .int⟩] (encTup [⟨false, .int⟩] x)).run (pool_New_Λ K) = pool_New_K K x := by kernel_rfl
set_option maxRecDepth 5000000 in
theorem ask_words_run (x : Tup [⟨true, (.pair .int (.pair .int (.pair .int (.pair .int .int))))⟩, ⟨true, (.pair (.sl .int) (.pair (.sl .int) (.pair (.pair (.pair (.sl .int) (.pair (.sl .int) (.pair (.sl .int) (.sl .int)))) (.pair (.pair (.sl .int) (.pair (.sl .int) (.pair (.sl .int) (.sl .int)))) (.pair (.sl .int) (.pair (.sl .int) (.pair (.sl .int) (.sl .int)))))) (.pair .int (.sl .int)))))⟩, ⟨true, (.pair .int (.pair .int (.pair .int (.pair .int (.pair .int .int)))))⟩]) : (pxFn Tryz.prog (lkΓ [(38, chain_Field_S), (39, mem_Load_S), (40, chain_Put_S), (41, mem_Store_S)]) [] Tryz.f16 (bodyOf Tryz.f16) false [⟨true, (.pair (.sl .int) (.pair (.sl .int) (.pair (.pair (.pair (.sl .int) (.pair (.sl .int) (.pair (.sl .int) (.sl .int)))) (.pair (.pair (.sl .int) (.pair (.sl .int) (.pair (.sl .int) (.sl .int)))) (.pair (.sl .int) (.pair (.sl .int) (.pair (.sl .int) (.sl .int)))))) (.pair .int (.sl .int)))))⟩, ⟨false, .int⟩, ⟨false, .int⟩] (encTup [⟨true, (.pair .int (.pair .int (.pair .int (.pair .int .int))))⟩, ⟨true, (.pair (.sl .int) (.pair (.sl .int) (.pair (.pair (.pair (.sl .int) (.pair (.sl .int) (.pair (.sl .int) (.sl .int)))) (.pair (.pair (.sl .int) (.pair (.sl .int) (.pair (.sl .int) (.sl .int)))) (.pair (.sl .int) (.pair (.sl .int) (.pair (.sl .int) (.sl .int)))))) (.pair .int (.sl .int)))))⟩, ⟨true, (.pair .int (.pair .int (.pair .int (.pair .int (.pair .int .int)))))⟩] x)).run (fun _ _ _ => none) = ask_words x := by kernel_rfl
theorem ask_words_cuts : ∀ p ∈ cuts Tryz.prog (lkΓ [(38, chain_Field_S), (39, mem_Load_S), (40, chain_Put_S), (41, mem_Store_S)]) Tryz.f16.ntmps [] (bodyOf Tryz.f16) (κ0 Tryz.prog Tryz.f16 false [⟨true, (.pair (.sl .int) (.pair (.sl .int) (.pair (.pair (.pair (.sl .int) (.pair (.sl .int) (.pair (.sl .int) (.sl .int)))) (.pair (.pair (.sl .int) (.pair (.sl .int) (.pair (.sl .int) (.sl .int)))) (.pair (.sl .int) (.pair (.sl .int) (.pair (.sl .int) (.sl .int)))))) (.pair .int (.sl .int)))))⟩, ⟨false, .int⟩, ⟨false, .int⟩]), CutOk (fun _ _ _ _ => none) p := cutsNil (by kernel_rfl)
set_option maxRecDepth 5000000 in
theorem tendrilref07_Take_run (x : Tup [⟨true, (.pair (.sl .int) (.pair (.sl .int) (.pair (.pair (.pair (.sl .int) (.pair (.sl .int) (.pair (.sl .int) (.sl .int)))) (.pair (.pair (.sl .int) (.pair (.sl .int) (.pair (.sl .int) (.sl .int)))) (.pair (.sl .int) (.pair (.sl .int) (.pair (.sl .int) (.sl .int)))))) (.pair .int (.sl .int)))))⟩, ⟨false, .int⟩]) : (pxFn Tryz.prog (lkΓ [(52, tendrilref07_Check_S), (68, tendrilref07_kind_S), (92, tendrilref05_Take_S)]) [] Tryz.f66 (bodyOf Tryz.f66) false [⟨true, (.pair (.sl .int) (.pair (.sl .int) (.pair (.pair (.pair (.sl .int) (.pair (.sl .int) (.pair (.sl .int) (.sl .int)))) (.pair (.pair (.sl .int) (.pair (.sl .int) (.pair (.sl .int) (.sl .int)))) (.pair (.sl .int) (.pair (.sl .int) (.pair (.sl .int) (.sl .int)))))) (.pair .int (.sl .int)))))⟩, ⟨false, .int⟩, ⟨false, .int⟩] (encTup [⟨true, (.pair (.sl .int) (.pair (.sl .int) (.pair (.pair (.pair (.sl .int) (.pair (.sl .int) (.pair (.sl .int) (.sl .int)))) (.pair (.pair (.sl .int) (.pair (.sl .int) (.pair (.sl .int) (.sl .int)))) (.pair (.sl .int) (.pair (.sl .int) (.pair (.sl .int) (.sl .int)))))) (.pair .int (.sl .int)))))⟩, ⟨false, .int⟩] x)).run (fun _ _ _ => none) = tendrilref07_Take x := by kernel_rfl
theorem tendrilref07_Take_cuts : ∀ p ∈ cuts Tryz.prog (lkΓ [(52, tendrilref07_Check_S), (68, tendrilref07_kind_S), (92, tendrilref05_Take_S)]) Tryz.f66.ntmps [] (bodyOf Tryz.f66) (κ0 Tryz.prog Tryz.f66 false [⟨true, (.pair (.sl .int) (.pair (.sl .int) (.pair (.pair (.pair (.sl .int) (.pair (.sl .int) (.pair (.sl .int) (.sl .int)))) (.pair (.pair (.sl .int) (.pair (.sl .int) (.pair (.sl .int) (.sl .int)))) (.pair (.sl .int) (.pair (.sl .int) (.pair (.sl .int) (.sl .int)))))) (.pair .int (.sl .int)))))⟩, ⟨false, .int⟩, ⟨false, .int⟩]), CutOk (fun _ _ _ _ => none) p := cutsNil (by kernel_rfl)
set_option maxRecDepth 5000000 in
theorem tendrilref16_set_run (x : Tup [⟨true, (.pair (.sl .int) (.pair (.sl .int) (.pair (.pair (.pair (.sl .int) (.pair (.sl .int) (.pair (.sl .int) (.sl .int)))) (.pair (.pair (.sl .int) (.pair (.sl .int) (.pair (.sl .int) (.sl .int)))) (.pair (.sl .int) (.pair (.sl .int) (.pair (.sl .int) (.sl .int)))))) (.pair .int (.sl .int)))))⟩, ⟨false, .int⟩, ⟨false, .int⟩]) : (pxFn Tryz.prog (lkΓ [(6, tendrilref02_Copy_S)]) [] Tryz.f64 (bodyOf Tryz.f64) false [⟨true, (.pair (.sl .int) (.pair (.sl .int) (.pair (.pair (.pair (.sl .int) (.pair (.sl .int) (.pair (.sl .int) (.sl .int)))) (.pair (.pair (.sl .int) (.pair (.sl .int) (.pair (.sl .int) (.sl .int)))) (.pair (.sl .int) (.pair (.sl .int) (.pair (.sl .int) (.sl .int)))))) (.pair .int (.sl .int)))))⟩] (encTup [⟨true, (.pair (.sl .int) (.pair (.sl .int) (.pair (.pair (.pair (.sl .int) (.pair (.sl .int) (.pair (.sl .int) (.sl .int)))) (.pair (.pair (.sl .int) (.pair (.sl .int) (.pair (.sl .int) (.sl .int)))) (.pair (.sl .int) (.pair (.sl .int) (.pair (.sl .int) (.sl .int)))))) (.pair .int (.sl .int)))))⟩, ⟨false, .int⟩, ⟨false, .int⟩] x)).run (fun _ _ _ => none) = tendrilref16_set x := by kernel_rfl
theorem tendrilref16_set_cuts : ∀ p ∈ cuts Tryz.prog (lkΓ [(6, tendrilref02_Copy_S)]) Tryz.f64.ntmps [] (bodyOf Tryz.f64) (κ0 Tryz.prog Tryz.f64 false [⟨true, (.pair (.sl .int) (.pair (.sl .int) (.pair (.pair (.pair (.sl .int) (.pair (.sl .int) (.pair (.sl .int) (.sl .int)))) (.pair (.pair (.sl .int) (.pair (.sl .int) (.pair (.sl .int) (.sl .int)))) (.pair (.sl .int) (.pair (.sl .int) (.pair (.sl .int) (.sl .int)))))) (.pair .int (.sl .int)))))⟩]), CutOk (fun _ _ _ _ => none) p := cutsNil (by kernel_rfl)
set_option maxRecDepth 5000000 in
theorem arena_Gen_run (x : Tup [⟨true, (.pair (.sl .int) (.pair (.sl .int) (.pair (.pair (.pair (.sl .int) (.pair (.sl .int) (.pair (.sl .int) (.sl .int)))) (.pair (.pair (.sl .int) (.pair (.sl .int) (.pair (.sl .int) (.sl .int)))) (.pair (.sl .int) (.pair (.sl .int) (.pair (.sl .int) (.sl .int)))))) (.pair .int (.sl .int)))))⟩, ⟨false, .int⟩, ⟨false, .int⟩]) : (pxFn Tryz.prog (lkΓ [(42, tag_Unpack_S), (79, arena_may_S)]) [] Tryz.f43 (bodyOf Tryz.f43) false [⟨false, .int⟩, ⟨false, .int⟩, ⟨false, .int⟩] (encTup [⟨true, (.pair (.sl .int) (.pair (.sl .int) (.pair (.pair (.pair (.sl .int) (.pair (.sl .int) (.pair (.sl .int) (.sl .int)))) (.pair (.pair (.sl .int) (.pair (.sl .int) (.pair (.sl .int) (.sl .int)))) (.pair (.sl .int) (.pair (.sl .int) (.pair (.sl .int) (.sl .int)))))) (.pair .int (.sl .int)))))⟩, ⟨false, .int⟩, ⟨false, .int⟩] x)).run (fun _ _ _ => none) = arena_Gen x := by kernel_rfl
theorem arena_Gen_cuts : ∀ p ∈ cuts Tryz.prog (lkΓ [(42, tag_Unpack_S), (79, arena_may_S)]) Tryz.f43.ntmps [] (bodyOf Tryz.f43) (κ0 Tryz.prog Tryz.f43 false [⟨false, .int⟩, ⟨false, .int⟩, ⟨false, .int⟩]), CutOk (fun _ _ _ _ => none) p := cutsNil (by kernel_rfl)
set_option maxRecDepth 5000000 in
theorem pool_Take_run (x : Tup [⟨true, (.pair (.sl .int) (.pair (.sl .int) (.pair (.sl .int) (.sl .int))))⟩]) : (pxFn Tryz.prog (lkΓ [(72, pool_Check_S), (103, pool_own_S), (104, tag_Pack_S)]) [] Tryz.f84 (bodyOf Tryz.f84) true [⟨true, (.pair (.sl .int) (.pair (.sl .int) (.pair (.sl .int) (.sl .int))))⟩, ⟨false, .int⟩, ⟨false, .int⟩] (encTup [⟨true, (.pair (.sl .int) (.pair (.sl .int) (.pair (.sl .int) (.sl .int))))⟩] x)).run (fun _ _ _ => none) = pool_Take x := by kernel_rfl
theorem pool_Take_cuts : ∀ p ∈ cuts Tryz.prog (lkΓ [(72, pool_Check_S), (103, pool_own_S), (104, tag_Pack_S)]) Tryz.f84.ntmps [] (bodyOf Tryz.f84) (κ0 Tryz.prog Tryz.f84 true [⟨true, (.pair (.sl .int) (.pair (.sl .int) (.pair (.sl .int) (.sl .int))))⟩, ⟨false, .int⟩, ⟨false, .int⟩]), CutOk (fun _ _ _ _ => none) p := cutsNil (by kernel_rfl)
set_option maxRecDepth 5000000 in
theorem place_Field_run (x : Tup [⟨true, (.pair .int (.pair .int (.pair .int (.pair .int .int))))⟩, ⟨false, .int⟩, ⟨false, .int⟩, ⟨false, .int⟩]) : (pxFn Tryz.prog (lkΓ [(32, place_Check_S), (74, place_kinds_S)]) [] Tryz.f97 (bodyOf Tryz.f97) false [⟨false, .int⟩, ⟨false, .int⟩] (encTup [⟨true, (.pair .int (.pair .int (.pair .int (.pair .int .int))))⟩, ⟨false, .int⟩, ⟨false, .int⟩, ⟨false, .int⟩] x)).run (fun _ _ _ => none) = place_Field x := by kernel_rfl
theorem place_Field_cuts : ∀ p ∈ cuts Tryz.prog (lkΓ [(32, place_Check_S), (74, place_kinds_S)]) Tryz.f97.ntmps [] (bodyOf Tryz.f97) (κ0 Tryz.prog Tryz.f97 false [⟨false, .int⟩, ⟨false, .int⟩]), CutOk (fun _ _ _ _ => none) p := cutsNil (by kernel_rfl)
set_option maxRecDepth 5000000 in
theorem place_New_run (x : Tup [⟨true, (.pair .int (.pair .int (.pair .int (.pair .int .int))))⟩]) : (pxFn Tryz.prog (lkΓ [(32, place_Check_S), (34, place_Size_S), (71, mem_New_S)]) [] Tryz.f29 (bodyOf Tryz.f29) true [⟨false, (.sl .int)⟩, ⟨false, .int⟩] (encTup [⟨true, (.pair .int (.pair .int (.pair .int (.pair .int .int))))⟩] x)).run (fun _ _ _ => none) = place_New x := by kernel_rfl
theorem place_New_cuts : ∀ p ∈ cuts Tryz.prog (lkΓ [(32, place_Check_S), (34, place_Size_S), (71, mem_New_S)]) Tryz.f29.ntmps [] (bodyOf Tryz.f29) (κ0 Tryz.prog Tryz.f29 true [⟨false, (.sl .int)⟩, ⟨false, .int⟩]), CutOk (fun _ _ _ _ => none) p := cutsNil (by kernel_rfl)
set_option maxRecDepth 5000000 in
theorem tendrilref03_Cap_run (x : Tup [⟨true, (.pair .int (.pair .int (.pair .int (.pair .int .int))))⟩, ⟨false, .int⟩]) : (pxFn Tryz.prog (lkΓ []) [] Tryz.f54 (bodyOf Tryz.f54) false [⟨false, .int⟩, ⟨false, .int⟩] (encTup [⟨true, (.pair .int (.pair .int (.pair .int (.pair .int .int))))⟩, ⟨false, .int⟩] x)).run (fun _ _ _ => none) = tendrilref03_Cap x := by kernel_rfl
theorem tendrilref03_Cap_cuts : ∀ p ∈ cuts Tryz.prog (lkΓ []) Tryz.f54.ntmps [] (bodyOf Tryz.f54) (κ0 Tryz.prog Tryz.f54 false [⟨false, .int⟩, ⟨false, .int⟩]), CutOk (fun _ _ _ _ => none) p := cutsNil (by kernel_rfl)
set_option maxRecDepth 5000000 in
theorem math_bits_Mul64_run (x : Tup [⟨false, (.num .u64)⟩, ⟨false, (.num .u64)⟩]) : (pxFn Tryz.prog (lkΓ []) [] Tryz.f115 (bodyOf Tryz.f115) false [⟨false, (.num .u64)⟩, ⟨false, (.num .u64)⟩] (encTup [⟨false, (.num .u64)⟩, ⟨false, (.num .u64)⟩] x)).run (fun _ _ _ => none) = math_bits_Mul64 x := by kernel_rfl
theorem math_bits_Mul64_cuts : ∀ p ∈ cuts Tryz.prog (lkΓ []) Tryz.f115.ntmps [] (bodyOf Tryz.f115) (κ0 Tryz.prog Tryz.f115 false [⟨false, (.num .u64)⟩, ⟨false, (.num .u64)⟩]), CutOk (fun _ _ _ _ => none) p := cutsNil (by kernel_rfl)
set_option maxRecDepth 5000000 in
theorem place_Check_run (x : Tup [⟨true, (.pair .int (.pair .int (.pair .int (.pair .int .int))))⟩]) : (pxFn Tryz.prog (lkΓ []) [] Tryz.f32 (bodyOf Tryz.f32) false [⟨false, .int⟩] (encTup [⟨true, (.pair .int (.pair .int (.pair .int (.pair .int .int))))⟩] x)).run (fun _ _ _ => none) = place_Check x := by kernel_rfl
theorem place_Check_cuts : ∀ p ∈ cuts Tryz.prog (lkΓ []) Tryz.f32.ntmps [] (bodyOf Tryz.f32) (κ0 Tryz.prog Tryz.f32 false [⟨false, .int⟩]), CutOk (fun _ _ _ _ => none) p := cutsNil (by kernel_rfl)
set_option maxRecDepth 5000000 in
theorem tendrilref02_Load_run (x : Tup [⟨false, (.sl .int)⟩, ⟨false, .int⟩]) : (pxFn Tryz.prog (lkΓ []) [] Tryz.f59 (bodyOf Tryz.f59) false [⟨false, .int⟩, ⟨false, .int⟩] (encTup [⟨false, (.sl .int)⟩, ⟨false, .int⟩] x)).run (fun _ _ _ => none) = tendrilref02_Load x := by kernel_rfl
theorem tendrilref02_Load_cuts : ∀ p ∈ cuts Tryz.prog (lkΓ []) Tryz.f59.ntmps [] (bodyOf Tryz.f59) (κ0 Tryz.prog Tryz.f59 false [⟨false, .int⟩, ⟨false, .int⟩]), CutOk (fun _ _ _ _ => none) p := cutsNil (by kernel_rfl)
set_option maxRecDepth 5000000 in
theorem tag_Unpack_run (x : Tup [⟨false, .int⟩]) : (pxFn Tryz.prog (lkΓ []) [] Tryz.f42 (bodyOf Tryz.f42) false [⟨false, .int⟩, ⟨false, .int⟩, ⟨false, .int⟩] (encTup [⟨false, .int⟩] x)).run (fun _ _ _ => none) = tag_Unpack x := by kernel_rfl
theorem tag_Unpack_cuts : ∀ p ∈ cuts Tryz.prog (lkΓ []) Tryz.f42.ntmps [] (bodyOf Tryz.f42) (κ0 Tryz.prog Tryz.f42 false [⟨false, .int⟩, ⟨false, .int⟩, ⟨false, .int⟩]), CutOk (fun _ _ _ _ => none) p := cutsNil (by kernel_rfl)
set_option maxRecDepth 5000000 in
theorem latch_Held_run (x : Tup [⟨false, .int⟩]) : (pxFn Tryz.prog (lkΓ [(37, latch_Check_S)]) [] Tryz.f31 (bodyOf Tryz.f31) false [⟨false, .bool⟩] (encTup [⟨false, .int⟩] x)).run (fun _ _ _ => none) = latch_Held x := by kernel_rfl
theorem latch_Held_cuts : ∀ p ∈ cuts Tryz.prog (lkΓ [(37, latch_Check_S)]) Tryz.f31.ntmps [] (bodyOf Tryz.f31) (κ0 Tryz.prog Tryz.f31 false [⟨false, .bool⟩]), CutOk (fun _ _ _ _ => none) p := cutsNil (by kernel_rfl)
end Go.Proofs.YtcoiboghdmmdcadGreatFn
