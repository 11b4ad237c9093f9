/- What the interpreter of code computes of these functions, part 1; no condition. -/
import Derived.Test.YtkdohmgacodhjaaProg
import Derived.KernelRfl
import Derived.Test.YtkdohmgacodhjaaPx25
import Derived.Test.YtkdohmgacodhjaaFnsD
set_option linter.unusedVariables false
set_option linter.unusedSimpArgs false
namespace Go.Proofs.YtkdohmgacodhjaaFn
open Go Go.RowKit Go.Proofs.YtkdohmgacodhjaaPx
set_option maxHeartbeats 0 in
set_option maxRecDepth 5000000 in
def arena_New_P20v0 (k : Nat) (vs : List SV) (bs : List Blk) : Option (Option ((List Int × List Int × ((List Int × List Int × List Int × List Int) × (List Int × List Int × List Int × List Int) × List Int × List Int × List Int × List Int) × Int × List Int) × Int)) := match vs, bs with
  | [.val (.one (.ptr 0 0)), .val (.one (.ptr 1 0)), .val (.agg [(.int .i64 p0), (.int .i64 p1), (.int .i64 p2)]), .val (.one (.int .i64 p3))], [.box [.nil, .nil, .nil, .nil, .nil, .nil, .nil, .nil, .nil, .nil, .nil, .nil, .nil, .nil, (.int .i64 p4), .nil], .box [.nil, .nil, .nil, .nil, .nil, .nil, .nil, .nil, .nil, .nil, .nil, .nil, .nil, .nil, (.int .i64 p5), (.row 2)], .row .int p6] => some (arena_New_L20 k p0 p1 p2 p3 p4 p5 p6)
  | _, _ => none
set_option maxHeartbeats 0 in
set_option maxRecDepth 5000000 in
def arena_New_P20v1 (k : Nat) (vs : List SV) (bs : List Blk) : Option (Option ((List Int × List Int × ((List Int × List Int × List Int × List Int) × (List Int × List Int × List Int × List Int) × List Int × List Int × List Int × List Int) × Int × List Int) × Int)) := match vs, bs with
  | [.val (.one (.ptr 0 0)), .val (.one (.ptr 1 0)), .val (.agg [(.int .i64 p0), (.int .i64 p1), (.int .i64 p2)]), .val (.one (.int .i64 p3))], [.box [.nil, .nil, .nil, .nil, .nil, .nil, .nil, .nil, .nil, .nil, .nil, .nil, .nil, .nil, (.int .i64 p4), .nil], .box [.nil, .nil, .nil, .nil, .nil, .nil, .nil, .nil, .nil, .nil, (.row 2), (.row 3), (.row 4), (.row 5), (.int .i64 p5), (.row 6)], .row .int p6, .row .int p7, .row .int p8, .row .int p9, .row .int p10] => some (arena_New_L20x1 k p0 p1 p2 p3 p4 p5 p6 p7 p8 p9 p10)
  | _, _ => none
set_option maxHeartbeats 0 in
set_option maxRecDepth 5000000 in
def arena_New_P20v2 (k : Nat) (vs : List SV) (bs : List Blk) : Option (Option ((List Int × List Int × ((List Int × List Int × List Int × List Int) × (List Int × List Int × List Int × List Int) × List Int × List Int × List Int × List Int) × Int × List Int) × Int)) := match vs, bs with
  | [.val (.one (.ptr 0 0)), .val (.one (.ptr 1 0)), .val (.agg [(.int .i64 p0), (.int .i64 p1), (.int .i64 p2)]), .val (.one (.int .i64 p3))], [.box [.nil, .nil, .nil, .nil, .nil, .nil, .nil, .nil, .nil, .nil, .nil, .nil, .nil, .nil, (.int .i64 p4), .nil], .box [.nil, .nil, .nil, .nil, .nil, .nil, (.row 2), (.row 3), (.row 4), (.row 5), .nil, .nil, .nil, .nil, (.int .i64 p5), (.row 6)], .row .int p6, .row .int p7, .row .int p8, .row .int p9, .row .int p10] => some (arena_New_L20x2 k p0 p1 p2 p3 p4 p5 p6 p7 p8 p9 p10)
  | _, _ => none
set_option maxHeartbeats 0 in
set_option maxRecDepth 5000000 in
def arena_New_P20v3 (k : Nat) (vs : List SV) (bs : List Blk) : Option (Option ((List Int × List Int × ((List Int × List Int × List Int × List Int) × (List Int × List Int × List Int × List Int) × List Int × List Int × List Int × List Int) × Int × List Int) × Int)) := match vs, bs with
  | [.val (.one (.ptr 0 0)), .val (.one (.ptr 1 0)), .val (.agg [(.int .i64 p0), (.int .i64 p1), (.int .i64 p2)]), .val (.one (.int .i64 p3))], [.box [.nil, .nil, .nil, .nil, .nil, .nil, .nil, .nil, .nil, .nil, .nil, .nil, .nil, .nil, (.int .i64 p4), .nil], .box [.nil, .nil, (.row 2), (.row 3), (.row 4), (.row 5), .nil, .nil, .nil, .nil, .nil, .nil, .nil, .nil, (.int .i64 p5), (.row 6)], .row .int p6, .row .int p7, .row .int p8, .row .int p9, .row .int p10] => some (arena_New_L20x3 k p0 p1 p2 p3 p4 p5 p6 p7 p8 p9 p10)
  | _, _ => none
set_option maxHeartbeats 0 in
set_option maxRecDepth 5000000 in
def arena_New_P20v4 (k : Nat) (vs : List SV) (bs : List Blk) : Option (Option ((List Int × List Int × ((List Int × List Int × List Int × List Int) × (List Int × List Int × List Int × List Int) × List Int × List Int × List Int × List Int) × Int × List Int) × Int)) := match vs, bs with
  | [.val (.one (.ptr 0 0)), .val (.one (.ptr 1 0)), .val (.agg [(.int .i64 p0), (.int .i64 p1), (.int .i64 p2)]), .val (.one (.int .i64 p3))], [.box [.nil, .nil, .nil, .nil, .nil, .nil, .nil, .nil, .nil, .nil, .nil, .nil, .nil, .nil, (.int .i64 p4), .nil], .box [.nil, .nil, .nil, .nil, .nil, .nil, (.row 2), (.row 3), (.row 4), (.row 5), (.row 6), (.row 7), (.row 8), (.row 9), (.int .i64 p5), (.row 10)], .row .int p6, .row .int p7, .row .int p8, .row .int p9, .row .int p10, .row .int p11, .row .int p12, .row .int p13, .row .int p14] => some (arena_New_L20x4 k p0 p1 p2 p3 p4 p5 p6 p7 p8 p9 p10 p11 p12 p13 p14)
  | _, _ => none
set_option maxHeartbeats 0 in
set_option maxRecDepth 5000000 in
def arena_New_P20v5 (k : Nat) (vs : List SV) (bs : List Blk) : Option (Option ((List Int × List Int × ((List Int × List Int × List Int × List Int) × (List Int × List Int × List Int × List Int) × List Int × List Int × List Int × List Int) × Int × List Int) × Int)) := match vs, bs with
  | [.val (.one (.ptr 0 0)), .val (.one (.ptr 1 0)), .val (.agg [(.int .i64 p0), (.int .i64 p1), (.int .i64 p2)]), .val (.one (.int .i64 p3))], [.box [.nil, .nil, .nil, .nil, .nil, .nil, .nil, .nil, .nil, .nil, .nil, .nil, .nil, .nil, (.int .i64 p4), .nil], .box [.nil, .nil, (.row 2), (.row 3), (.row 4), (.row 5), .nil, .nil, .nil, .nil, (.row 6), (.row 7), (.row 8), (.row 9), (.int .i64 p5), (.row 10)], .row .int p6, .row .int p7, .row .int p8, .row .int p9, .row .int p10, .row .int p11, .row .int p12, .row .int p13, .row .int p14] => some (arena_New_L20x5 k p0 p1 p2 p3 p4 p5 p6 p7 p8 p9 p10 p11 p12 p13 p14)
  | _, _ => none
set_option maxHeartbeats 0 in
set_option maxRecDepth 5000000 in
def arena_New_P20v6 (k : Nat) (vs : List SV) (bs : List Blk) : Option (Option ((List Int × List Int × ((List Int × List Int × List Int × List Int) × (List Int × List Int × List Int × List Int) × List Int × List Int × List Int × List Int) × Int × List Int) × Int)) := match vs, bs with
  | [.val (.one (.ptr 0 0)), .val (.one (.ptr 1 0)), .val (.agg [(.int .i64 p0), (.int .i64 p1), (.int .i64 p2)]), .val (.one (.int .i64 p3))], [.box [.nil, .nil, .nil, .nil, .nil, .nil, .nil, .nil, .nil, .nil, .nil, .nil, .nil, .nil, (.int .i64 p4), .nil], .box [.nil, .nil, (.row 2), (.row 3), (.row 4), (.row 5), (.row 6), (.row 7), (.row 8), (.row 9), .nil, .nil, .nil, .nil, (.int .i64 p5), (.row 10)], .row .int p6, .row .int p7, .row .int p8, .row .int p9, .row .int p10, .row .int p11, .row .int p12, .row .int p13, .row .int p14] => some (arena_New_L20x6 k p0 p1 p2 p3 p4 p5 p6 p7 p8 p9 p10 p11 p12 p13 p14)
  | _, _ => none
set_option maxHeartbeats 0 in
set_option maxRecDepth 5000000 in
def arena_New_P20v7 (k : Nat) (vs : List SV) (bs : List Blk) : Option (Option ((List Int × List Int × ((List Int × List Int × List Int × List Int) × (List Int × List Int × List Int × List Int) × List Int × List Int × List Int × List Int) × Int × List Int) × Int)) := match vs, bs with
  | [.val (.one (.ptr 0 0)), .val (.one (.ptr 1 0)), .val (.agg [(.int .i64 p0), (.int .i64 p1), (.int .i64 p2)]), .val (.one (.int .i64 p3))], [.box [.nil, .nil, .nil, .nil, .nil, .nil, .nil, .nil, .nil, .nil, .nil, .nil, .nil, .nil, (.int .i64 p4), .nil], .box [.nil, .nil, (.row 2), (.row 3), (.row 4), (.row 5), (.row 6), (.row 7), (.row 8), (.row 9), (.row 10), (.row 11), (.row 12), (.row 13), (.int .i64 p5), (.row 14)], .row .int p6, .row .int p7, .row .int p8, .row .int p9, .row .int p10, .row .int p11, .row .int p12, .row .int p13, .row .int p14, .row .int p15, .row .int p16, .row .int p17, .row .int p18] => some (arena_New_L20x7 k p0 p1 p2 p3 p4 p5 p6 p7 p8 p9 p10 p11 p12 p13 p14 p15 p16 p17 p18)
  | _, _ => none
def arena_New_P20 (k : Nat) (vs : List SV) (bs : List Blk) : Option ((List Int × List Int × ((List Int × List Int × List Int × List Int) × (List Int × List Int × List Int × List Int) × List Int × List Int × List Int × List Int) × Int × List Int) × Int) := match arena_New_P20v0 k vs bs with | some r => r | none => match arena_New_P20v1 k vs bs with | some r => r | none => match arena_New_P20v2 k vs bs with | some r => r | none => match arena_New_P20v3 k vs bs with | some r => r | none => match arena_New_P20v4 k vs bs with | some r => r | none => match arena_New_P20v5 k vs bs with | some r => r | none => match arena_New_P20v6 k vs bs with | some r => r | none => match arena_New_P20v7 k vs bs with | some r => r | none => none
def arena_New_Λ (k L : Nat) (vs : List SV) (bs : List Blk) : Option ((List Int × List Int × ((List Int × List Int × List Int × List Int) × (List Int × List Int × List Int × List Int) × List Int × List Int × List Int × List Int) × Int × List Int) × Int) := match Nat.beq L 20 with | true => arena_New_P20 k vs bs | false => none
noncomputable def arena_New_C : List (Cut (Tup [⟨true, (.pair (.sl .int) (.pair (.sl .int) (.pair (.pair (.pair (.sl .int) (.pair (.sl .int) (.pair (.sl .int) (.sl .int)))) (.pair (.pair (.sl .int) (.pair (.sl .int) (.pair (.sl .int) (.sl .int)))) (.pair (.sl .int) (.pair (.sl .int) (.pair (.sl .int) (.sl .int)))))) (.pair .int (.sl .int)))))⟩, ⟨false, .int⟩])) := cuts Try.prog (lkΓ [(14, place_Check_S), (15, era_New_S), (16, pool_New_S)]) Try.f5.ntmps [(20, [4, 9, 35, 36])] (bodyOf Try.f5) (κ0 Try.prog Try.f5 false [⟨true, (.pair (.sl .int) (.pair (.sl .int) (.pair (.pair (.pair (.sl .int) (.pair (.sl .int) (.pair (.sl .int) (.sl .int)))) (.pair (.pair (.sl .int) (.pair (.sl .int) (.pair (.sl .int) (.sl .int)))) (.pair (.sl .int) (.pair (.sl .int) (.pair (.sl .int) (.sl .int)))))) (.pair .int (.sl .int)))))⟩, ⟨false, .int⟩])
set_option maxRecDepth 5000000 in
theorem arena_New_c20 (k : Nat) (p0 : Int) (p1 : Int) (p2 : Int) (p3 : Int) (p4 : Int) (p5 : Int) (p6 : List Int) : ((nthC arena_New_C 0).g (mkSt [4, 9, 35, 36] [.val (.one (.ptr 0 0)), .val (.one (.ptr 1 0)), .val (.agg [(.int .i64 p0), (.int .i64 p1), (.int .i64 p2)]), .val (.one (.int .i64 p3))] [.box [.nil, .nil, .nil, .nil, .nil, .nil, .nil, .nil, .nil, .nil, .nil, .nil, .nil, .nil, (.int .i64 p4), .nil], .box [.nil, .nil, .nil, .nil, .nil, .nil, .nil, .nil, .nil, .nil, .nil, .nil, .nil, .nil, (.int .i64 p5), (.row 2)], .row .int p6])).run (arena_New_Λ k) = arena_New_L20 (k + 1) p0 p1 p2 p3 p4 p5 p6 := by kernel_rfl
set_option maxHeartbeats 0 in
set_option maxRecDepth 5000000 in
theorem arena_New_e20 (k : Nat) (vs : List SV) (bs : List Blk) (r : ((List Int) × ((List Int) × ((((List Int) × ((List Int) × ((List Int) × (List Int)))) × (((List Int) × ((List Int) × ((List Int) × (List Int)))) × ((List Int) × ((List Int) × ((List Int) × (List Int)))))) × (Int × (List Int))))) × Int) (h : arena_New_P20v0 (k + 1) vs bs = some (some r)) : ((nthC arena_New_C 0).g (mkSt [4, 9, 35, 36] vs bs)).run (arena_New_Λ k) = some r := by
  unfold arena_New_P20v0 at h
  split at h
  · exact (arena_New_c20 k _ _ _ _ _ _ _).trans (Option.some.inj h)
  · cases h
set_option maxRecDepth 5000000 in
theorem arena_New_c20x1 (k : Nat) (p0 : Int) (p1 : Int) (p2 : Int) (p3 : Int) (p4 : Int) (p5 : Int) (p6 : List Int) (p7 : List Int) (p8 : List Int) (p9 : List Int) (p10 : List Int) : ((nthC arena_New_C 0).g (mkSt [4, 9, 35, 36] [.val (.one (.ptr 0 0)), .val (.one (.ptr 1 0)), .val (.agg [(.int .i64 p0), (.int .i64 p1), (.int .i64 p2)]), .val (.one (.int .i64 p3))] [.box [.nil, .nil, .nil, .nil, .nil, .nil, .nil, .nil, .nil, .nil, .nil, .nil, .nil, .nil, (.int .i64 p4), .nil], .box [.nil, .nil, .nil, .nil, .nil, .nil, .nil, .nil, .nil, .nil, (.row 2), (.row 3), (.row 4), (.row 5), (.int .i64 p5), (.row 6)], .row .int p6, .row .int p7, .row .int p8, .row .int p9, .row .int p10])).run (arena_New_Λ k) = arena_New_L20x1 (k + 1) p0 p1 p2 p3 p4 p5 p6 p7 p8 p9 p10 := by kernel_rfl
set_option maxHeartbeats 0 in
set_option maxRecDepth 5000000 in
theorem arena_New_e20x1 (k : Nat) (vs : List SV) (bs : List Blk) (r : ((List Int) × ((List Int) × ((((List Int) × ((List Int) × ((List Int) × (List Int)))) × (((List Int) × ((List Int) × ((List Int) × (List Int)))) × ((List Int) × ((List Int) × ((List Int) × (List Int)))))) × (Int × (List Int))))) × Int) (h : arena_New_P20v1 (k + 1) vs bs = some (some r)) : ((nthC arena_New_C 0).g (mkSt [4, 9, 35, 36] vs bs)).run (arena_New_Λ k) = some r := by
  unfold arena_New_P20v1 at h
  split at h
  · exact (arena_New_c20x1 k _ _ _ _ _ _ _ _ _ _ _).trans (Option.some.inj h)
  · cases h
set_option maxRecDepth 5000000 in
theorem arena_New_c20x2 (k : Nat) (p0 : Int) (p1 : Int) (p2 : Int) (p3 : Int) (p4 : Int) (p5 : Int) (p6 : List Int) (p7 : List Int) (p8 : List Int) (p9 : List Int) (p10 : List Int) : ((nthC arena_New_C 0).g (mkSt [4, 9, 35, 36] [.val (.one (.ptr 0 0)), .val (.one (.ptr 1 0)), .val (.agg [(.int .i64 p0), (.int .i64 p1), (.int .i64 p2)]), .val (.one (.int .i64 p3))] [.box [.nil, .nil, .nil, .nil, .nil, .nil, .nil, .nil, .nil, .nil, .nil, .nil, .nil, .nil, (.int .i64 p4), .nil], .box [.nil, .nil, .nil, .nil, .nil, .nil, (.row 2), (.row 3), (.row 4), (.row 5), .nil, .nil, .nil, .nil, (.int .i64 p5), (.row 6)], .row .int p6, .row .int p7, .row .int p8, .row .int p9, .row .int p10])).run (arena_New_Λ k) = arena_New_L20x2 (k + 1) p0 p1 p2 p3 p4 p5 p6 p7 p8 p9 p10 := by kernel_rfl
set_option maxHeartbeats 0 in
set_option maxRecDepth 5000000 in
theorem arena_New_e20x2 (k : Nat) (vs : List SV) (bs : List Blk) (r : ((List Int) × ((List Int) × ((((List Int) × ((List Int) × ((List Int) × (List Int)))) × (((List Int) × ((List Int) × ((List Int) × (List Int)))) × ((List Int) × ((List Int) × ((List Int) × (List Int)))))) × (Int × (List Int))))) × Int) (h : arena_New_P20v2 (k + 1) vs bs = some (some r)) : ((nthC arena_New_C 0).g (mkSt [4, 9, 35, 36] vs bs)).run (arena_New_Λ k) = some r := by
  unfold arena_New_P20v2 at h
  split at h
  · exact (arena_New_c20x2 k _ _ _ _ _ _ _ _ _ _ _).trans (Option.some.inj h)
  · cases h
set_option maxRecDepth 5000000 in
theorem arena_New_c20x3 (k : Nat) (p0 : Int) (p1 : Int) (p2 : Int) (p3 : Int) (p4 : Int) (p5 : Int) (p6 : List Int) (p7 : List Int) (p8 : List Int) (p9 : List Int) (p10 : List Int) : ((nthC arena_New_C 0).g (mkSt [4, 9, 35, 36] [.val (.one (.ptr 0 0)), .val (.one (.ptr 1 0)), .val (.agg [(.int .i64 p0), (.int .i64 p1), (.int .i64 p2)]), .val (.one (.int .i64 p3))] [.box [.nil, .nil, .nil, .nil, .nil, .nil, .nil, .nil, .nil, .nil, .nil, .nil, .nil, .nil, (.int .i64 p4), .nil], .box [.nil, .nil, (.row 2), (.row 3), (.row 4), (.row 5), .nil, .nil, .nil, .nil, .nil, .nil, .nil, .nil, (.int .i64 p5), (.row 6)], .row .int p6, .row .int p7, .row .int p8, .row .int p9, .row .int p10])).run (arena_New_Λ k) = arena_New_L20x3 (k + 1) p0 p1 p2 p3 p4 p5 p6 p7 p8 p9 p10 := by kernel_rfl
set_option maxHeartbeats 0 in
set_option maxRecDepth 5000000 in
theorem arena_New_e20x3 (k : Nat) (vs : List SV) (bs : List Blk) (r : ((List Int) × ((List Int) × ((((List Int) × ((List Int) × ((List Int) × (List Int)))) × (((List Int) × ((List Int) × ((List Int) × (List Int)))) × ((List Int) × ((List Int) × ((List Int) × (List Int)))))) × (Int × (List Int))))) × Int) (h : arena_New_P20v3 (k + 1) vs bs = some (some r)) : ((nthC arena_New_C 0).g (mkSt [4, 9, 35, 36] vs bs)).run (arena_New_Λ k) = some r := by
  unfold arena_New_P20v3 at h
  split at h
  · exact (arena_New_c20x3 k _ _ _ _ _ _ _ _ _ _ _).trans (Option.some.inj h)
  · cases h
set_option maxRecDepth 5000000 in
theorem arena_New_c20x4 (k : Nat) (p0 : Int) (p1 : Int) (p2 : Int) (p3 : Int) (p4 : Int) (p5 : Int) (p6 : List Int) (p7 : List Int) (p8 : List Int) (p9 : List Int) (p10 : List Int) (p11 : List Int) (p12 : List Int) (p13 : List Int) (p14 : List Int) : ((nthC arena_New_C 0).g (mkSt [4, 9, 35, 36] [.val (.one (.ptr 0 0)), .val (.one (.ptr 1 0)), .val (.agg [(.int .i64 p0), (.int .i64 p1), (.int .i64 p2)]), .val (.one (.int .i64 p3))] [.box [.nil, .nil, .nil, .nil, .nil, .nil, .nil, .nil, .nil, .nil, .nil, .nil, .nil, .nil, (.int .i64 p4), .nil], .box [.nil, .nil, .nil, .nil, .nil, .nil, (.row 2), (.row 3), (.row 4), (.row 5), (.row 6), (.row 7), (.row 8), (.row 9), (.int .i64 p5), (.row 10)], .row .int p6, .row .int p7, .row .int p8, .row .int p9, .row .int p10, .row .int p11, .row .int p12, .row .int p13, .row .int p14])).run (arena_New_Λ k) = arena_New_L20x4 (k + 1) p0 p1 p2 p3 p4 p5 p6 p7 p8 p9 p10 p11 p12 p13 p14 := by kernel_rfl
set_option maxHeartbeats 0 in
set_option maxRecDepth 5000000 in
theorem arena_New_e20x4 (k : Nat) (vs : List SV) (bs : List Blk) (r : ((List Int) × ((List Int) × ((((List Int) × ((List Int) × ((List Int) × (List Int)))) × (((List Int) × ((List Int) × ((List Int) × (List Int)))) × ((List Int) × ((List Int) × ((List Int) × (List Int)))))) × (Int × (List Int))))) × Int) (h : arena_New_P20v4 (k + 1) vs bs = some (some r)) : ((nthC arena_New_C 0).g (mkSt [4, 9, 35, 36] vs bs)).run (arena_New_Λ k) = some r := by
  unfold arena_New_P20v4 at h
  split at h
  · exact (arena_New_c20x4 k _ _ _ _ _ _ _ _ _ _ _ _ _ _ _).trans (Option.some.inj h)
  · cases h
set_option maxRecDepth 5000000 in
theorem arena_New_c20x5 (k : Nat) (p0 : Int) (p1 : Int) (p2 : Int) (p3 : Int) (p4 : Int) (p5 : Int) (p6 : List Int) (p7 : List Int) (p8 : List Int) (p9 : List Int) (p10 : List Int) (p11 : List Int) (p12 : List Int) (p13 : List Int) (p14 : List Int) : ((nthC arena_New_C 0).g (mkSt [4, 9, 35, 36] [.val (.one (.ptr 0 0)), .val (.one (.ptr 1 0)), .val (.agg [(.int .i64 p0), (.int .i64 p1), (.int .i64 p2)]), .val (.one (.int .i64 p3))] [.box [.nil, .nil, .nil, .nil, .nil, .nil, .nil, .nil, .nil, .nil, .nil, .nil, .nil, .nil, (.int .i64 p4), .nil], .box [.nil, .nil, (.row 2), (.row 3), (.row 4), (.row 5), .nil, .nil, .nil, .nil, (.row 6), (.row 7), (.row 8), (.row 9), (.int .i64 p5), (.row 10)], .row .int p6, .row .int p7, .row .int p8, .row .int p9, .row .int p10, .row .int p11, .row .int p12, .row .int p13, .row .int p14])).run (arena_New_Λ k) = arena_New_L20x5 (k + 1) p0 p1 p2 p3 p4 p5 p6 p7 p8 p9 p10 p11 p12 p13 p14 := by kernel_rfl
set_option maxHeartbeats 0 in
set_option maxRecDepth 5000000 in
theorem arena_New_e20x5 (k : Nat) (vs : List SV) (bs : List Blk) (r : ((List Int) × ((List Int) × ((((List Int) × ((List Int) × ((List Int) × (List Int)))) × (((List Int) × ((List Int) × ((List Int) × (List Int)))) × ((List Int) × ((List Int) × ((List Int) × (List Int)))))) × (Int × (List Int))))) × Int) (h : arena_New_P20v5 (k + 1) vs bs = some (some r)) : ((nthC arena_New_C 0).g (mkSt [4, 9, 35, 36] vs bs)).run (arena_New_Λ k) = some r := by
  unfold arena_New_P20v5 at h
  split at h
  · exact (arena_New_c20x5 k _ _ _ _ _ _ _ _ _ _ _ _ _ _ _).trans (Option.some.inj h)
  · cases h
set_option maxRecDepth 5000000 in
theorem arena_New_c20x6 (k : Nat) (p0 : Int) (p1 : Int) (p2 : Int) (p3 : Int) (p4 : Int) (p5 : Int) (p6 : List Int) (p7 : List Int) (p8 : List Int) (p9 : List Int) (p10 : List Int) (p11 : List Int) (p12 : List Int) (p13 : List Int) (p14 : List Int) : ((nthC arena_New_C 0).g (mkSt [4, 9, 35, 36] [.val (.one (.ptr 0 0)), .val (.one (.ptr 1 0)), .val (.agg [(.int .i64 p0), (.int .i64 p1), (.int .i64 p2)]), .val (.one (.int .i64 p3))] [.box [.nil, .nil, .nil, .nil, .nil, .nil, .nil, .nil, .nil, .nil, .nil, .nil, .nil, .nil, (.int .i64 p4), .nil], .box [.nil, .nil, (.row 2), (.row 3), (.row 4), (.row 5), (.row 6), (.row 7), (.row 8), (.row 9), .nil, .nil, .nil, .nil, (.int .i64 p5), (.row 10)], .row .int p6, .row .int p7, .row .int p8, .row .int p9, .row .int p10, .row .int p11, .row .int p12, .row .int p13, .row .int p14])).run (arena_New_Λ k) = arena_New_L20x6 (k + 1) p0 p1 p2 p3 p4 p5 p6 p7 p8 p9 p10 p11 p12 p13 p14 := by kernel_rfl
set_option maxHeartbeats 0 in
set_option maxRecDepth 5000000 in
theorem arena_New_e20x6 (k : Nat) (vs : List SV) (bs : List Blk) (r : ((List Int) × ((List Int) × ((((List Int) × ((List Int) × ((List Int) × (List Int)))) × (((List Int) × ((List Int) × ((List Int) × (List Int)))) × ((List Int) × ((List Int) × ((List Int) × (List Int)))))) × (Int × (List Int))))) × Int) (h : arena_New_P20v6 (k + 1) vs bs = some (some r)) : ((nthC arena_New_C 0).g (mkSt [4, 9, 35, 36] vs bs)).run (arena_New_Λ k) = some r := by
  unfold arena_New_P20v6 at h
  split at h
  · exact (arena_New_c20x6 k _ _ _ _ _ _ _ _ _ _ _ _ _ _ _).trans (Option.some.inj h)
  · cases h
set_option maxRecDepth 5000000 in
theorem arena_New_c20x7 (k : Nat) (p0 : Int) (p1 : Int) (p2 : Int) (p3 : Int) (p4 : Int) (p5 : Int) (p6 : List Int) (p7 : List Int) (p8 : List Int) (p9 : List Int) (p10 : List Int) (p11 : List Int) (p12 : List Int) (p13 : List Int) (p14 : List Int) (p15 : List Int) (p16 : List Int) (p17 : List Int) (p18 : List Int) : ((nthC arena_New_C 0).g (mkSt [4, 9, 35, 36] [.val (.one (.ptr 0 0)), .val (.one (.ptr 1 0)), .val (.agg [(.int .i64 p0), (.int .i64 p1), (.int .i64 p2)]), .val (.one (.int .i64 p3))] [.box [.nil, .nil, .nil, .nil, .nil, .nil, .nil, .nil, .nil, .nil, .nil, .nil, .nil, .nil, (.int .i64 p4), .nil], .box [.nil, .nil, (.row 2), (.row 3), (.row 4), (.row 5), (.row 6), (.row 7), (.row 8), (.row 9), (.row 10), (.row 11), (.row 12), (.row 13), (.int .i64 p5), (.row 14)], .row .int p6, .row .int p7, .row .int p8, .row .int p9, .row .int p10, .row .int p11, .row .int p12, .row .int p13, .row .int p14, .row .int p15, .row .int p16, .row .int p17, .row .int p18])).run (arena_New_Λ k) = arena_New_L20x7 (k + 1) p0 p1 p2 p3 p4 p5 p6 p7 p8 p9 p10 p11 p12 p13 p14 p15 p16 p17 p18 := by kernel_rfl
set_option maxHeartbeats 0 in
set_option maxRecDepth 5000000 in
theorem arena_New_e20x7 (k : Nat) (vs : List SV) (bs : List Blk) (r : ((List Int) × ((List Int) × ((((List Int) × ((List Int) × ((List Int) × (List Int)))) × (((List Int) × ((List Int) × ((List Int) × (List Int)))) × ((List Int) × ((List Int) × ((List Int) × (List Int)))))) × (Int × (List Int))))) × Int) (h : arena_New_P20v7 (k + 1) vs bs = some (some r)) : ((nthC arena_New_C 0).g (mkSt [4, 9, 35, 36] vs bs)).run (arena_New_Λ k) = some r := by
  unfold arena_New_P20v7 at h
  split at h
  · exact (arena_New_c20x7 k _ _ _ _ _ _ _ _ _ _ _ _ _ _ _ _ _ _ _).trans (Option.some.inj h)
  · cases h
theorem arena_New_d20 : CutOk arena_New_Λ (nthC arena_New_C 0) := by
  refine cutOk_of (L := 20) (live := [4, 9, 35, 36]) (by kernel_rfl) (by kernel_rfl) fun k vs bs r h => ?_
  change arena_New_P20 (k + 1) vs bs = some r at h
  unfold arena_New_P20 at h
  split at h
  · rename_i q hq
    exact arena_New_e20 k vs bs r (hq.trans (congrArg some h))
  split at h
  · rename_i q hq
    exact arena_New_e20x1 k vs bs r (hq.trans (congrArg some h))
  split at h
  · rename_i q hq
    exact arena_New_e20x2 k vs bs r (hq.trans (congrArg some h))
  split at h
  · rename_i q hq
    exact arena_New_e20x3 k vs bs r (hq.trans (congrArg some h))
  split at h
  · rename_i q hq
    exact arena_New_e20x4 k vs bs r (hq.trans (congrArg some h))
  split at h
  · rename_i q hq
    exact arena_New_e20x5 k vs bs r (hq.trans (congrArg some h))
  split at h
  · rename_i q hq
    exact arena_New_e20x6 k vs bs r (hq.trans (congrArg some h))
  split at h
  · rename_i q hq
    exact arena_New_e20x7 k vs bs r (hq.trans (congrArg some h))
  cases h
theorem arena_New_cuts : ∀ p ∈ cuts Try.prog (lkΓ [(14, place_Check_S), (15, era_New_S), (16, pool_New_S)]) Try.f5.ntmps [(20, [4, 9, 35, 36])] (bodyOf Try.f5) (κ0 Try.prog Try.f5 false [⟨true, (.pair (.sl .int) (.pair (.sl .int) (.pair (.pair (.pair (.sl .int) (.pair (.sl .int) (.pair (.sl .int) (.sl .int)))) (.pair (.pair (.sl .int) (.pair (.sl .int) (.pair (.sl .int) (.sl .int)))) (.pair (.sl .int) (.pair (.sl .int) (.pair (.sl .int) (.sl .int)))))) (.pair .int (.sl .int)))))⟩, ⟨false, .int⟩]), CutOk arena_New_Λ p := cutsOk (l := arena_New_C) (n := 1) (by kernel_rfl) fun
  | 0, _ => arena_New_d20
  | k + 1, h => absurd h (by omega)
set_option maxHeartbeats 0 in
set_option maxRecDepth 5000000 in
theorem arena_New_z20 (vs : List SV) (bs : List Blk) (q : Option (((List Int) × ((List Int) × ((((List Int) × ((List Int) × ((List Int) × (List Int)))) × (((List Int) × ((List Int) × ((List Int) × (List Int)))) × ((List Int) × ((List Int) × ((List Int) × (List Int)))))) × (Int × (List Int))))) × Int)) (h : arena_New_P20v0 0 vs bs = some q) : q = none := by
  unfold arena_New_P20v0 at h; split at h
  · have h := Option.some.inj h; rw [← h]; first | rfl | (unfold arena_New_L20; rfl)
  · cases h
set_option maxHeartbeats 0 in
set_option maxRecDepth 5000000 in
theorem arena_New_z20x1 (vs : List SV) (bs : List Blk) (q : Option (((List Int) × ((List Int) × ((((List Int) × ((List Int) × ((List Int) × (List Int)))) × (((List Int) × ((List Int) × ((List Int) × (List Int)))) × ((List Int) × ((List Int) × ((List Int) × (List Int)))))) × (Int × (List Int))))) × Int)) (h : arena_New_P20v1 0 vs bs = some q) : q = none := by
  unfold arena_New_P20v1 at h; split at h
  · have h := Option.some.inj h; rw [← h]; first | rfl | (unfold arena_New_L20x1; rfl)
  · cases h
set_option maxHeartbeats 0 in
set_option maxRecDepth 5000000 in
theorem arena_New_z20x2 (vs : List SV) (bs : List Blk) (q : Option (((List Int) × ((List Int) × ((((List Int) × ((List Int) × ((List Int) × (List Int)))) × (((List Int) × ((List Int) × ((List Int) × (List Int)))) × ((List Int) × ((List Int) × ((List Int) × (List Int)))))) × (Int × (List Int))))) × Int)) (h : arena_New_P20v2 0 vs bs = some q) : q = none := by
  unfold arena_New_P20v2 at h; split at h
  · have h := Option.some.inj h; rw [← h]; first | rfl | (unfold arena_New_L20x2; rfl)
  · cases h
set_option maxHeartbeats 0 in
set_option maxRecDepth 5000000 in
theorem arena_New_z20x3 (vs : List SV) (bs : List Blk) (q : Option (((List Int) × ((List Int) × ((((List Int) × ((List Int) × ((List Int) × (List Int)))) × (((List Int) × ((List Int) × ((List Int) × (List Int)))) × ((List Int) × ((List Int) × ((List Int) × (List Int)))))) × (Int × (List Int))))) × Int)) (h : arena_New_P20v3 0 vs bs = some q) : q = none := by
  unfold arena_New_P20v3 at h; split at h
  · have h := Option.some.inj h; rw [← h]; first | rfl | (unfold arena_New_L20x3; rfl)
  · cases h
set_option maxHeartbeats 0 in
set_option maxRecDepth 5000000 in
theorem arena_New_z20x4 (vs : List SV) (bs : List Blk) (q : Option (((List Int) × ((List Int) × ((((List Int) × ((List Int) × ((List Int) × (List Int)))) × (((List Int) × ((List Int) × ((List Int) × (List Int)))) × ((List Int) × ((List Int) × ((List Int) × (List Int)))))) × (Int × (List Int))))) × Int)) (h : arena_New_P20v4 0 vs bs = some q) : q = none := by
  unfold arena_New_P20v4 at h; split at h
  · have h := Option.some.inj h; rw [← h]; first | rfl | (unfold arena_New_L20x4; rfl)
  · cases h
set_option maxHeartbeats 0 in
set_option maxRecDepth 5000000 in
theorem arena_New_z20x5 (vs : List SV) (bs : List Blk) (q : Option (((List Int) × ((List Int) × ((((List Int) × ((List Int) × ((List Int) × (List Int)))) × (((List Int) × ((List Int) × ((List Int) × (List Int)))) × ((List Int) × ((List Int) × ((List Int) × (List Int)))))) × (Int × (List Int))))) × Int)) (h : arena_New_P20v5 0 vs bs = some q) : q = none := by
  unfold arena_New_P20v5 at h; split at h
  · have h := Option.some.inj h; rw [← h]; first | rfl | (unfold arena_New_L20x5; rfl)
  · cases h
set_option maxHeartbeats 0 in
set_option maxRecDepth 5000000 in
theorem arena_New_z20x6 (vs : List SV) (bs : List Blk) (q : Option (((List Int) × ((List Int) × ((((List Int) × ((List Int) × ((List Int) × (List Int)))) × (((List Int) × ((List Int) × ((List Int) × (List Int)))) × ((List Int) × ((List Int) × ((List Int) × (List Int)))))) × (Int × (List Int))))) × Int)) (h : arena_New_P20v6 0 vs bs = some q) : q = none := by
  unfold arena_New_P20v6 at h; split at h
  · have h := Option.some.inj h; rw [← h]; first | rfl | (unfold arena_New_L20x6; rfl)
  · cases h
set_option maxHeartbeats 0 in
set_option maxRecDepth 5000000 in
theorem arena_New_z20x7 (vs : List SV) (bs : List Blk) (q : Option (((List Int) × ((List Int) × ((((List Int) × ((List Int) × ((List Int) × (List Int)))) × (((List Int) × ((List Int) × ((List Int) × (List Int)))) × ((List Int) × ((List Int) × ((List Int) × (List Int)))))) × (Int × (List Int))))) × Int)) (h : arena_New_P20v7 0 vs bs = some q) : q = none := by
  unfold arena_New_P20v7 at h; split at h
  · have h := Option.some.inj h; rw [← h]; first | rfl | (unfold arena_New_L20x7; rfl)
  · cases h
theorem arena_New_Λ0 (L : Nat) (vs : List SV) (bs : List Blk) : arena_New_Λ 0 L vs bs = none := by
  unfold arena_New_Λ
  split
  · unfold arena_New_P20
    split
    · rename_i q hq; exact arena_New_z20 _ _ q hq
    split
    · rename_i q hq; exact arena_New_z20x1 _ _ q hq
    split
    · rename_i q hq; exact arena_New_z20x2 _ _ q hq
    split
    · rename_i q hq; exact arena_New_z20x3 _ _ q hq
    split
    · rename_i q hq; exact arena_New_z20x4 _ _ q hq
    split
    · rename_i q hq; exact arena_New_z20x5 _ _ q hq
    split
    · rename_i q hq; exact arena_New_z20x6 _ _ q hq
    split
    · rename_i q hq; exact arena_New_z20x7 _ _ q hq
    rfl
  rfl
set_option maxRecDepth 5000000 in
theorem arena_New_run (K : Nat) (x : Tup [⟨true, (.pair .int (.pair .int (.pair .int (.pair .int .int))))⟩, ⟨false, .int⟩]) : (pxFn Try.prog (lkΓ [(14, place_Check_S), (15, era_New_S), (16, pool_New_S)]) [(20, [4, 9, 35, 36])] Try.f5 (bodyOf Try.f5) false [⟨true, (.pair (.sl .int) (.pair (.sl .int) (.pair (.pair (.pair (.sl .int) (.pair (.sl .int) (.pair (.sl .int) (.sl .int)))) (.pair (.pair (.sl .int) (.pair (.sl .int) (.pair (.sl .int) (.sl .int)))) (.pair (.sl .int) (.pair (.sl .int) (.pair (.sl .int) (.sl .int)))))) (.pair .int (.sl .int)))))⟩, ⟨false, .int⟩] (encTup [⟨true, (.pair .int (.pair .int (.pair .int (.pair .int .int))))⟩, ⟨false, .int⟩] x)).run (arena_New_Λ K) = arena_New_K K x := by kernel_rfl
set_option maxHeartbeats 0 in
set_option maxRecDepth 5000000 in
def slices_Index_P6v0 (k : Nat) (vs : List SV) (bs : List Blk) : Option (Option (Int)) := match vs, bs with
  | [.val (.one (.sl .bool p0)), .val (.one (.bool p1)), .val (.one (.int .i64 p2)), .val (.one (.int .i64 p3))], [] => some (slices_Index_L6 k p0 p1 p2 p3)
  | _, _ => none
def slices_Index_P6 (k : Nat) (vs : List SV) (bs : List Blk) : Option (Int) := match slices_Index_P6v0 k vs bs with | some r => r | none => none
def slices_Index_Λ (k L : Nat) (vs : List SV) (bs : List Blk) : Option (Int) := match Nat.beq L 6 with | true => slices_Index_P6 k vs bs | false => none
noncomputable def slices_Index_C : List (Cut (Tup [⟨false, .int⟩])) := cuts Try.prog (lkΓ []) Try.f39.ntmps [(6, [0, 1, 7, 8])] (bodyOf Try.f39) (κ0 Try.prog Try.f39 false [⟨false, .int⟩])
set_option maxRecDepth 5000000 in
theorem slices_Index_c6 (k : Nat) (p0 : List Bool) (p1 : Bool) (p2 : Int) (p3 : Int) : ((nthC slices_Index_C 0).g (mkSt [0, 1, 7, 8] [.val (.one (.sl .bool p0)), .val (.one (.bool p1)), .val (.one (.int .i64 p2)), .val (.one (.int .i64 p3))] [])).run (slices_Index_Λ k) = slices_Index_L6 (k + 1) p0 p1 p2 p3 := by kernel_rfl
set_option maxHeartbeats 0 in
set_option maxRecDepth 5000000 in
theorem slices_Index_e6 (k : Nat) (vs : List SV) (bs : List Blk) (r : Int) (h : slices_Index_P6v0 (k + 1) vs bs = some (some r)) : ((nthC slices_Index_C 0).g (mkSt [0, 1, 7, 8] vs bs)).run (slices_Index_Λ k) = some r := by
  unfold slices_Index_P6v0 at h
  split at h
  · exact (slices_Index_c6 k _ _ _ _).trans (Option.some.inj h)
  · cases h
theorem slices_Index_d6 : CutOk slices_Index_Λ (nthC slices_Index_C 0) := by
  refine cutOk_of (L := 6) (live := [0, 1, 7, 8]) (by kernel_rfl) (by kernel_rfl) fun k vs bs r h => ?_
  change slices_Index_P6 (k + 1) vs bs = some r at h
  unfold slices_Index_P6 at h
  split at h
  · rename_i q hq
    exact slices_Index_e6 k vs bs r (hq.trans (congrArg some h))
  cases h
theorem slices_Index_cuts : ∀ p ∈ cuts Try.prog (lkΓ []) Try.f39.ntmps [(6, [0, 1, 7, 8])] (bodyOf Try.f39) (κ0 Try.prog Try.f39 false [⟨false, .int⟩]), CutOk slices_Index_Λ p := cutsOk (l := slices_Index_C) (n := 1) (by kernel_rfl) fun
  | 0, _ => slices_Index_d6
  | k + 1, h => absurd h (by omega)
set_option maxHeartbeats 0 in
set_option maxRecDepth 5000000 in
theorem slices_Index_z6 (vs : List SV) (bs : List Blk) (q : Option (Int)) (h : slices_Index_P6v0 0 vs bs = some q) : q = none := by
  unfold slices_Index_P6v0 at h; split at h
  · have h := Option.some.inj h; rw [← h]; first | rfl | (unfold slices_Index_L6; rfl)
  · cases h
theorem slices_Index_Λ0 (L : Nat) (vs : List SV) (bs : List Blk) : slices_Index_Λ 0 L vs bs = none := by
  unfold slices_Index_Λ
  split
  · unfold slices_Index_P6
    split
    · rename_i q hq; exact slices_Index_z6 _ _ q hq
    rfl
  rfl
set_option maxRecDepth 5000000 in
theorem slices_Index_run (K : Nat) (x : Tup [⟨false, (.sl .bool)⟩, ⟨false, .bool⟩]) : (pxFn Try.prog (lkΓ []) [(6, [0, 1, 7, 8])] Try.f39 (bodyOf Try.f39) false [⟨false, .int⟩] (encTup [⟨false, (.sl .bool)⟩, ⟨false, .bool⟩] x)).run (slices_Index_Λ K) = slices_Index_K K x := by kernel_rfl
set_option maxRecDepth 5000000 in
theorem arena_Take_run (x : Tup [⟨true, (.pair (.sl .int) (.pair (.sl .int) (.pair (.pair (.pair (.sl .int) (.pair (.sl .int) (.pair (.sl .int) (.sl .int)))) (.pair (.pair (.sl .int) (.pair (.sl .int) (.pair (.sl .int) (.sl .int)))) (.pair (.sl .int) (.pair (.sl .int) (.pair (.sl .int) (.sl .int)))))) (.pair .int (.sl .int)))))⟩, ⟨false, .int⟩]) : (pxFn Try.prog (lkΓ [(17, arena_may_S), (23, pool_Take_S)]) [] Try.f9 (bodyOf Try.f9) false [⟨true, (.pair (.sl .int) (.pair (.sl .int) (.pair (.pair (.pair (.sl .int) (.pair (.sl .int) (.pair (.sl .int) (.sl .int)))) (.pair (.pair (.sl .int) (.pair (.sl .int) (.pair (.sl .int) (.sl .int)))) (.pair (.sl .int) (.pair (.sl .int) (.pair (.sl .int) (.sl .int)))))) (.pair .int (.sl .int)))))⟩, ⟨false, .int⟩, ⟨false, .int⟩] (encTup [⟨true, (.pair (.sl .int) (.pair (.sl .int) (.pair (.pair (.pair (.sl .int) (.pair (.sl .int) (.pair (.sl .int) (.sl .int)))) (.pair (.pair (.sl .int) (.pair (.sl .int) (.pair (.sl .int) (.sl .int)))) (.pair (.sl .int) (.pair (.sl .int) (.pair (.sl .int) (.sl .int)))))) (.pair .int (.sl .int)))))⟩, ⟨false, .int⟩] x)).run (fun _ _ _ => none) = arena_Take x := by kernel_rfl
theorem arena_Take_cuts : ∀ p ∈ cuts Try.prog (lkΓ [(17, arena_may_S), (23, pool_Take_S)]) Try.f9.ntmps [] (bodyOf Try.f9) (κ0 Try.prog Try.f9 false [⟨true, (.pair (.sl .int) (.pair (.sl .int) (.pair (.pair (.pair (.sl .int) (.pair (.sl .int) (.pair (.sl .int) (.sl .int)))) (.pair (.pair (.sl .int) (.pair (.sl .int) (.pair (.sl .int) (.sl .int)))) (.pair (.sl .int) (.pair (.sl .int) (.pair (.sl .int) (.sl .int)))))) (.pair .int (.sl .int)))))⟩, ⟨false, .int⟩, ⟨false, .int⟩]), CutOk (fun _ _ _ _ => none) p := cutsNil (by kernel_rfl)
set_option maxRecDepth 5000000 in
theorem pool_Take_run (x : Tup [⟨true, (.pair (.sl .int) (.pair (.sl .int) (.pair (.sl .int) (.sl .int))))⟩]) : (pxFn Try.prog (lkΓ [(25, pool_Check_S), (33, pool_own_S), (34, tag_Pack_S)]) [] Try.f23 (bodyOf Try.f23) true [⟨true, (.pair (.sl .int) (.pair (.sl .int) (.pair (.sl .int) (.sl .int))))⟩, ⟨false, .int⟩, ⟨false, .int⟩] (encTup [⟨true, (.pair (.sl .int) (.pair (.sl .int) (.pair (.sl .int) (.sl .int))))⟩] x)).run (fun _ _ _ => none) = pool_Take x := by kernel_rfl
theorem pool_Take_cuts : ∀ p ∈ cuts Try.prog (lkΓ [(25, pool_Check_S), (33, pool_own_S), (34, tag_Pack_S)]) Try.f23.ntmps [] (bodyOf Try.f23) (κ0 Try.prog Try.f23 true [⟨true, (.pair (.sl .int) (.pair (.sl .int) (.pair (.sl .int) (.sl .int))))⟩, ⟨false, .int⟩, ⟨false, .int⟩]), CutOk (fun _ _ _ _ => none) p := cutsNil (by kernel_rfl)
set_option maxRecDepth 5000000 in
theorem slices_ContainsFunc_era_Turn_1_run (x : Tup [⟨false, (.sl .int)⟩, ⟨false, (.clo 31 (.ref (.pair .int (.sl .int))))⟩]) : (pxFn Try.prog (lkΓ [(32000038, slices_IndexFunc_era_Turn_1_S)]) [] Try.f32 (bodyOf Try.f32) false [⟨false, .bool⟩] (encTup [⟨false, (.sl .int)⟩, ⟨false, (.clo 31 (.ref (.pair .int (.sl .int))))⟩] x)).run (fun _ _ _ => none) = slices_ContainsFunc_era_Turn_1 x := by kernel_rfl
theorem slices_ContainsFunc_era_Turn_1_cuts : ∀ p ∈ cuts Try.prog (lkΓ [(32000038, slices_IndexFunc_era_Turn_1_S)]) Try.f32.ntmps [] (bodyOf Try.f32) (κ0 Try.prog Try.f32 false [⟨false, .bool⟩]), CutOk (fun _ _ _ _ => none) p := cutsNil (by kernel_rfl)
set_option maxRecDepth 5000000 in
theorem era_Pin_run (x : Tup [⟨true, (.pair .int (.sl .int))⟩, ⟨false, .int⟩]) : (pxFn Try.prog (lkΓ [(28, era_pinned_S), (29, era_with_S)]) [] Try.f18 (bodyOf Try.f18) true [⟨true, (.pair .int (.sl .int))⟩, ⟨false, .int⟩] (encTup [⟨true, (.pair .int (.sl .int))⟩, ⟨false, .int⟩] x)).run (fun _ _ _ => none) = era_Pin x := by kernel_rfl
theorem era_Pin_cuts : ∀ p ∈ cuts Try.prog (lkΓ [(28, era_pinned_S), (29, era_with_S)]) Try.f18.ntmps [] (bodyOf Try.f18) (κ0 Try.prog Try.f18 true [⟨true, (.pair .int (.sl .int))⟩, ⟨false, .int⟩]), CutOk (fun _ _ _ _ => none) p := cutsNil (by kernel_rfl)
set_option maxRecDepth 5000000 in
theorem era_pinned_run (x : Tup [⟨true, (.pair .int (.sl .int))⟩, ⟨false, .int⟩]) : (pxFn Try.prog (lkΓ [(26, era_Check_S)]) [] Try.f28 (bodyOf Try.f28) false [⟨false, .int⟩, ⟨false, .int⟩] (encTup [⟨true, (.pair .int (.sl .int))⟩, ⟨false, .int⟩] x)).run (fun _ _ _ => none) = era_pinned x := by kernel_rfl
theorem era_pinned_cuts : ∀ p ∈ cuts Try.prog (lkΓ [(26, era_Check_S)]) Try.f28.ntmps [] (bodyOf Try.f28) (κ0 Try.prog Try.f28 false [⟨false, .int⟩, ⟨false, .int⟩]), CutOk (fun _ _ _ _ => none) p := cutsNil (by kernel_rfl)
set_option maxRecDepth 5000000 in
theorem tendrillaw07_plain_run (x : Tup []) : (pxFn Try.prog (lkΓ []) [] Try.f13 (bodyOf Try.f13) false [⟨true, (.pair .int (.pair .int (.pair .int (.pair .int .int))))⟩] (encTup [] x)).run (fun _ _ _ => none) = tendrillaw07_plain x := by kernel_rfl
theorem tendrillaw07_plain_cuts : ∀ p ∈ cuts Try.prog (lkΓ []) Try.f13.ntmps [] (bodyOf Try.f13) (κ0 Try.prog Try.f13 false [⟨true, (.pair .int (.pair .int (.pair .int (.pair .int .int))))⟩]), CutOk (fun _ _ _ _ => none) p := cutsNil (by kernel_rfl)
set_option maxRecDepth 5000000 in
theorem era_Safe_run (x : Tup [⟨true, (.pair .int (.sl .int))⟩]) : (pxFn Try.prog (lkΓ [(26, era_Check_S)]) [] Try.f22 (bodyOf Try.f22) false [⟨false, .int⟩] (encTup [⟨true, (.pair .int (.sl .int))⟩] x)).run (fun _ _ _ => none) = era_Safe x := by kernel_rfl
theorem era_Safe_cuts : ∀ p ∈ cuts Try.prog (lkΓ [(26, era_Check_S)]) Try.f22.ntmps [] (bodyOf Try.f22) (κ0 Try.prog Try.f22 false [⟨false, .int⟩]), CutOk (fun _ _ _ _ => none) p := cutsNil (by kernel_rfl)
end Go.Proofs.YtkdohmgacodhjaaFn
