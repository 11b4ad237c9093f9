/- What the interpreter of code computes of these functions, part 3; no condition. -/
import Derived.Test.YtcoiboghdmmdcacProg
import Derived.KernelRfl
import Derived.Test.YtcoiboghdmmdcacPx25
import Derived.Test.YtcoiboghdmmdcacFnsD
set_option linter.unusedVariables false
set_option linter.unusedSimpArgs false
namespace Go.Proofs.YtcoiboghdmmdcacFn
open Go Go.RowKit Go.Proofs.YtcoiboghdmmdcacPx
set_option maxHeartbeats 0 in
set_option maxRecDepth 5000000 in
def arena_New_P20v0 (k : Nat) (vs : List SV) (bs : List Blk) : Option (Option ((List Int × List Int × ((List Int × List Int × List Int × List Int) × (List Int × List Int × List Int × List Int) × List Int × List Int × List Int × List Int) × Int × List Int) × Int)) := match vs, bs with
  | [.val (.one (.ptr 0 0)), .val (.one (.ptr 1 0)), .val (.agg [(.int .i64 p0), (.int .i64 p1), (.int .i64 p2)]), .val (.one (.int .i64 p3))], [.box [.nil, .nil, .nil, .nil, .nil, .nil, .nil, .nil, .nil, .nil, .nil, .nil, .nil, .nil, (.int .i64 p4), .nil], .box [.nil, .nil, .nil, .nil, .nil, .nil, .nil, .nil, .nil, .nil, .nil, .nil, .nil, .nil, (.int .i64 p5), (.row 2)], .row .int p6] => some (arena_New_L20 k p0 p1 p2 p3 p4 p5 p6)
  | _, _ => none
set_option maxHeartbeats 0 in
set_option maxRecDepth 5000000 in
def arena_New_P20v1 (k : Nat) (vs : List SV) (bs : List Blk) : Option (Option ((List Int × List Int × ((List Int × List Int × List Int × List Int) × (List Int × List Int × List Int × List Int) × List Int × List Int × List Int × List Int) × Int × List Int) × Int)) := match vs, bs with
  | [.val (.one (.ptr 0 0)), .val (.one (.ptr 1 0)), .val (.agg [(.int .i64 p0), (.int .i64 p1), (.int .i64 p2)]), .val (.one (.int .i64 p3))], [.box [.nil, .nil, .nil, .nil, .nil, .nil, .nil, .nil, .nil, .nil, .nil, .nil, .nil, .nil, (.int .i64 p4), .nil], .box [.nil, .nil, .nil, .nil, .nil, .nil, .nil, .nil, .nil, .nil, (.row 2), (.row 3), (.row 4), (.row 5), (.int .i64 p5), (.row 6)], .row .int p6, .row .int p7, .row .int p8, .row .int p9, .row .int p10] => some (arena_New_L20x1 k p0 p1 p2 p3 p4 p5 p6 p7 p8 p9 p10)
  | _, _ => none
set_option maxHeartbeats 0 in
set_option maxRecDepth 5000000 in
def arena_New_P20v2 (k : Nat) (vs : List SV) (bs : List Blk) : Option (Option ((List Int × List Int × ((List Int × List Int × List Int × List Int) × (List Int × List Int × List Int × List Int) × List Int × List Int × List Int × List Int) × Int × List Int) × Int)) := match vs, bs with
  | [.val (.one (.ptr 0 0)), .val (.one (.ptr 1 0)), .val (.agg [(.int .i64 p0), (.int .i64 p1), (.int .i64 p2)]), .val (.one (.int .i64 p3))], [.box [.nil, .nil, .nil, .nil, .nil, .nil, .nil, .nil, .nil, .nil, .nil, .nil, .nil, .nil, (.int .i64 p4), .nil], .box [.nil, .nil, .nil, .nil, .nil, .nil, (.row 2), (.row 3), (.row 4), (.row 5), .nil, .nil, .nil, .nil, (.int .i64 p5), (.row 6)], .row .int p6, .row .int p7, .row .int p8, .row .int p9, .row .int p10] => some (arena_New_L20x2 k p0 p1 p2 p3 p4 p5 p6 p7 p8 p9 p10)
  | _, _ => none
set_option maxHeartbeats 0 in
set_option maxRecDepth 5000000 in
def arena_New_P20v3 (k : Nat) (vs : List SV) (bs : List Blk) : Option (Option ((List Int × List Int × ((List Int × List Int × List Int × List Int) × (List Int × List Int × List Int × List Int) × List Int × List Int × List Int × List Int) × Int × List Int) × Int)) := match vs, bs with
  | [.val (.one (.ptr 0 0)), .val (.one (.ptr 1 0)), .val (.agg [(.int .i64 p0), (.int .i64 p1), (.int .i64 p2)]), .val (.one (.int .i64 p3))], [.box [.nil, .nil, .nil, .nil, .nil, .nil, .nil, .nil, .nil, .nil, .nil, .nil, .nil, .nil, (.int .i64 p4), .nil], .box [.nil, .nil, (.row 2), (.row 3), (.row 4), (.row 5), .nil, .nil, .nil, .nil, .nil, .nil, .nil, .nil, (.int .i64 p5), (.row 6)], .row .int p6, .row .int p7, .row .int p8, .row .int p9, .row .int p10] => some (arena_New_L20x3 k p0 p1 p2 p3 p4 p5 p6 p7 p8 p9 p10)
  | _, _ => none
set_option maxHeartbeats 0 in
set_option maxRecDepth 5000000 in
def arena_New_P20v4 (k : Nat) (vs : List SV) (bs : List Blk) : Option (Option ((List Int × List Int × ((List Int × List Int × List Int × List Int) × (List Int × List Int × List Int × List Int) × List Int × List Int × List Int × List Int) × Int × List Int) × Int)) := match vs, bs with
  | [.val (.one (.ptr 0 0)), .val (.one (.ptr 1 0)), .val (.agg [(.int .i64 p0), (.int .i64 p1), (.int .i64 p2)]), .val (.one (.int .i64 p3))], [.box [.nil, .nil, .nil, .nil, .nil, .nil, .nil, .nil, .nil, .nil, .nil, .nil, .nil, .nil, (.int .i64 p4), .nil], .box [.nil, .nil, .nil, .nil, .nil, .nil, (.row 2), (.row 3), (.row 4), (.row 5), (.row 6), (.row 7), (.row 8), (.row 9), (.int .i64 p5), (.row 10)], .row .int p6, .row .int p7, .row .int p8, .row .int p9, .row .int p10, .row .int p11, .row .int p12, .row .int p13, .row .int p14] => some (arena_New_L20x4 k p0 p1 p2 p3 p4 p5 p6 p7 p8 p9 p10 p11 p12 p13 p14)
  | _, _ => none
set_option maxHeartbeats 0 in
set_option maxRecDepth 5000000 in
def arena_New_P20v5 (k : Nat) (vs : List SV) (bs : List Blk) : Option (Option ((List Int × List Int × ((List Int × List Int × List Int × List Int) × (List Int × List Int × List Int × List Int) × List Int × List Int × List Int × List Int) × Int × List Int) × Int)) := match vs, bs with
  | [.val (.one (.ptr 0 0)), .val (.one (.ptr 1 0)), .val (.agg [(.int .i64 p0), (.int .i64 p1), (.int .i64 p2)]), .val (.one (.int .i64 p3))], [.box [.nil, .nil, .nil, .nil, .nil, .nil, .nil, .nil, .nil, .nil, .nil, .nil, .nil, .nil, (.int .i64 p4), .nil], .box [.nil, .nil, (.row 2), (.row 3), (.row 4), (.row 5), .nil, .nil, .nil, .nil, (.row 6), (.row 7), (.row 8), (.row 9), (.int .i64 p5), (.row 10)], .row .int p6, .row .int p7, .row .int p8, .row .int p9, .row .int p10, .row .int p11, .row .int p12, .row .int p13, .row .int p14] => some (arena_New_L20x5 k p0 p1 p2 p3 p4 p5 p6 p7 p8 p9 p10 p11 p12 p13 p14)
  | _, _ => none
set_option maxHeartbeats 0 in
set_option maxRecDepth 5000000 in
def arena_New_P20v6 (k : Nat) (vs : List SV) (bs : List Blk) : Option (Option ((List Int × List Int × ((List Int × List Int × List Int × List Int) × (List Int × List Int × List Int × List Int) × List Int × List Int × List Int × List Int) × Int × List Int) × Int)) := match vs, bs with
  | [.val (.one (.ptr 0 0)), .val (.one (.ptr 1 0)), .val (.agg [(.int .i64 p0), (.int .i64 p1), (.int .i64 p2)]), .val (.one (.int .i64 p3))], [.box [.nil, .nil, .nil, .nil, .nil, .nil, .nil, .nil, .nil, .nil, .nil, .nil, .nil, .nil, (.int .i64 p4), .nil], .box [.nil, .nil, (.row 2), (.row 3), (.row 4), (.row 5), (.row 6), (.row 7), (.row 8), (.row 9), .nil, .nil, .nil, .nil, (.int .i64 p5), (.row 10)], .row .int p6, .row .int p7, .row .int p8, .row .int p9, .row .int p10, .row .int p11, .row .int p12, .row .int p13, .row .int p14] => some (arena_New_L20x6 k p0 p1 p2 p3 p4 p5 p6 p7 p8 p9 p10 p11 p12 p13 p14)
  | _, _ => none
set_option maxHeartbeats 0 in
set_option maxRecDepth 5000000 in
def arena_New_P20v7 (k : Nat) (vs : List SV) (bs : List Blk) : Option (Option ((List Int × List Int × ((List Int × List Int × List Int × List Int) × (List Int × List Int × List Int × List Int) × List Int × List Int × List Int × List Int) × Int × List Int) × Int)) := match vs, bs with
  | [.val (.one (.ptr 0 0)), .val (.one (.ptr 1 0)), .val (.agg [(.int .i64 p0), (.int .i64 p1), (.int .i64 p2)]), .val (.one (.int .i64 p3))], [.box [.nil, .nil, .nil, .nil, .nil, .nil, .nil, .nil, .nil, .nil, .nil, .nil, .nil, .nil, (.int .i64 p4), .nil], .box [.nil, .nil, (.row 2), (.row 3), (.row 4), (.row 5), (.row 6), (.row 7), (.row 8), (.row 9), (.row 10), (.row 11), (.row 12), (.row 13), (.int .i64 p5), (.row 14)], .row .int p6, .row .int p7, .row .int p8, .row .int p9, .row .int p10, .row .int p11, .row .int p12, .row .int p13, .row .int p14, .row .int p15, .row .int p16, .row .int p17, .row .int p18] => some (arena_New_L20x7 k p0 p1 p2 p3 p4 p5 p6 p7 p8 p9 p10 p11 p12 p13 p14 p15 p16 p17 p18)
  | _, _ => none
def arena_New_P20 (k : Nat) (vs : List SV) (bs : List Blk) : Option ((List Int × List Int × ((List Int × List Int × List Int × List Int) × (List Int × List Int × List Int × List Int) × List Int × List Int × List Int × List Int) × Int × List Int) × Int) := match arena_New_P20v0 k vs bs with | some r => r | none => match arena_New_P20v1 k vs bs with | some r => r | none => match arena_New_P20v2 k vs bs with | some r => r | none => match arena_New_P20v3 k vs bs with | some r => r | none => match arena_New_P20v4 k vs bs with | some r => r | none => match arena_New_P20v5 k vs bs with | some r => r | none => match arena_New_P20v6 k vs bs with | some r => r | none => match arena_New_P20v7 k vs bs with | some r => r | none => none
def arena_New_Λ (k L : Nat) (vs : List SV) (bs : List Blk) : Option ((List Int × List Int × ((List Int × List Int × List Int × List Int) × (List Int × List Int × List Int × List Int) × List Int × List Int × List Int × List Int) × Int × List Int) × Int) := match Nat.beq L 20 with | true => arena_New_P20 k vs bs | false => none
noncomputable def arena_New_C : List (Cut (Tup [⟨true, (.pair (.sl .int) (.pair (.sl .int) (.pair (.pair (.pair (.sl .int) (.pair (.sl .int) (.pair (.sl .int) (.sl .int)))) (.pair (.pair (.sl .int) (.pair (.sl .int) (.pair (.sl .int) (.sl .int)))) (.pair (.sl .int) (.pair (.sl .int) (.pair (.sl .int) (.sl .int)))))) (.pair .int (.sl .int)))))⟩, ⟨false, .int⟩])) := cuts Try.prog (lkΓ [(34, place_Check_S), (35, era_New_S), (36, pool_New_S)]) Try.f11.ntmps [(20, [4, 9, 35, 36])] (bodyOf Try.f11) (κ0 Try.prog Try.f11 true [⟨true, (.pair (.sl .int) (.pair (.sl .int) (.pair (.pair (.pair (.sl .int) (.pair (.sl .int) (.pair (.sl .int) (.sl .int)))) (.pair (.pair (.sl .int) (.pair (.sl .int) (.pair (.sl .int) (.sl .int)))) (.pair (.sl .int) (.pair (.sl .int) (.pair (.sl .int) (.sl .int)))))) (.pair .int (.sl .int)))))⟩, ⟨false, .int⟩])
set_option maxRecDepth 5000000 in
theorem arena_New_c20 (k : Nat) (p0 : Int) (p1 : Int) (p2 : Int) (p3 : Int) (p4 : Int) (p5 : Int) (p6 : List Int) : ((nthC arena_New_C 0).g (mkSt [4, 9, 35, 36] [.val (.one (.ptr 0 0)), .val (.one (.ptr 1 0)), .val (.agg [(.int .i64 p0), (.int .i64 p1), (.int .i64 p2)]), .val (.one (.int .i64 p3))] [.box [.nil, .nil, .nil, .nil, .nil, .nil, .nil, .nil, .nil, .nil, .nil, .nil, .nil, .nil, (.int .i64 p4), .nil], .box [.nil, .nil, .nil, .nil, .nil, .nil, .nil, .nil, .nil, .nil, .nil, .nil, .nil, .nil, (.int .i64 p5), (.row 2)], .row .int p6])).run (arena_New_Λ k) = arena_New_L20 (k + 1) p0 p1 p2 p3 p4 p5 p6 := by kernel_rfl
set_option maxHeartbeats 0 in
set_option maxRecDepth 5000000 in
theorem arena_New_e20 (k : Nat) (vs : List SV) (bs : List Blk) (r : ((List Int) × ((List Int) × ((((List Int) × ((List Int) × ((List Int) × (List Int)))) × (((List Int) × ((List Int) × ((List Int) × (List Int)))) × ((List Int) × ((List Int) × ((List Int) × (List Int)))))) × (Int × (List Int))))) × Int) (h : arena_New_P20v0 (k + 1) vs bs = some (some r)) : ((nthC arena_New_C 0).g (mkSt [4, 9, 35, 36] vs bs)).run (arena_New_Λ k) = some r := by
  unfold arena_New_P20v0 at h
  split at h
  · exact (arena_New_c20 k _ _ _ _ _ _ _).trans (Option.some.inj h)
  · cases h
set_option maxRecDepth 5000000 in
theorem arena_New_c20x1 (k : Nat) (p0 : Int) (p1 : Int) (p2 : Int) (p3 : Int) (p4 : Int) (p5 : Int) (p6 : List Int) (p7 : List Int) (p8 : List Int) (p9 : List Int) (p10 : List Int) : ((nthC arena_New_C 0).g (mkSt [4, 9, 35, 36] [.val (.one (.ptr 0 0)), .val (.one (.ptr 1 0)), .val (.agg [(.int .i64 p0), (.int .i64 p1), (.int .i64 p2)]), .val (.one (.int .i64 p3))] [.box [.nil, .nil, .nil, .nil, .nil, .nil, .nil, .nil, .nil, .nil, .nil, .nil, .nil, .nil, (.int .i64 p4), .nil], .box [.nil, .nil, .nil, .nil, .nil, .nil, .nil, .nil, .nil, .nil, (.row 2), (.row 3), (.row 4), (.row 5), (.int .i64 p5), (.row 6)], .row .int p6, .row .int p7, .row .int p8, .row .int p9, .row .int p10])).run (arena_New_Λ k) = arena_New_L20x1 (k + 1) p0 p1 p2 p3 p4 p5 p6 p7 p8 p9 p10 := by kernel_rfl
set_option maxHeartbeats 0 in
set_option maxRecDepth 5000000 in
theorem arena_New_e20x1 (k : Nat) (vs : List SV) (bs : List Blk) (r : ((List Int) × ((List Int) × ((((List Int) × ((List Int) × ((List Int) × (List Int)))) × (((List Int) × ((List Int) × ((List Int) × (List Int)))) × ((List Int) × ((List Int) × ((List Int) × (List Int)))))) × (Int × (List Int))))) × Int) (h : arena_New_P20v1 (k + 1) vs bs = some (some r)) : ((nthC arena_New_C 0).g (mkSt [4, 9, 35, 36] vs bs)).run (arena_New_Λ k) = some r := by
  unfold arena_New_P20v1 at h
  split at h
  · exact (arena_New_c20x1 k _ _ _ _ _ _ _ _ _ _ _).trans (Option.some.inj h)
  · cases h
set_option maxRecDepth 5000000 in
theorem arena_New_c20x2 (k : Nat) (p0 : Int) (p1 : Int) (p2 : Int) (p3 : Int) (p4 : Int) (p5 : Int) (p6 : List Int) (p7 : List Int) (p8 : List Int) (p9 : List Int) (p10 : List Int) : ((nthC arena_New_C 0).g (mkSt [4, 9, 35, 36] [.val (.one (.ptr 0 0)), .val (.one (.ptr 1 0)), .val (.agg [(.int .i64 p0), (.int .i64 p1), (.int .i64 p2)]), .val (.one (.int .i64 p3))] [.box [.nil, .nil, .nil, .nil, .nil, .nil, .nil, .nil, .nil, .nil, .nil, .nil, .nil, .nil, (.int .i64 p4), .nil], .box [.nil, .nil, .nil, .nil, .nil, .nil, (.row 2), (.row 3), (.row 4), (.row 5), .nil, .nil, .nil, .nil, (.int .i64 p5), (.row 6)], .row .int p6, .row .int p7, .row .int p8, .row .int p9, .row .int p10])).run (arena_New_Λ k) = arena_New_L20x2 (k + 1) p0 p1 p2 p3 p4 p5 p6 p7 p8 p9 p10 := by kernel_rfl
set_option maxHeartbeats 0 in
set_option maxRecDepth 5000000 in
theorem arena_New_e20x2 (k : Nat) (vs : List SV) (bs : List Blk) (r : ((List Int) × ((List Int) × ((((List Int) × ((List Int) × ((List Int) × (List Int)))) × (((List Int) × ((List Int) × ((List Int) × (List Int)))) × ((List Int) × ((List Int) × ((List Int) × (List Int)))))) × (Int × (List Int))))) × Int) (h : arena_New_P20v2 (k + 1) vs bs = some (some r)) : ((nthC arena_New_C 0).g (mkSt [4, 9, 35, 36] vs bs)).run (arena_New_Λ k) = some r := by
  unfold arena_New_P20v2 at h
  split at h
  · exact (arena_New_c20x2 k _ _ _ _ _ _ _ _ _ _ _).trans (Option.some.inj h)
  · cases h
set_option maxRecDepth 5000000 in
theorem arena_New_c20x3 (k : Nat) (p0 : Int) (p1 : Int) (p2 : Int) (p3 : Int) (p4 : Int) (p5 : Int) (p6 : List Int) (p7 : List Int) (p8 : List Int) (p9 : List Int) (p10 : List Int) : ((nthC arena_New_C 0).g (mkSt [4, 9, 35, 36] [.val (.one (.ptr 0 0)), .val (.one (.ptr 1 0)), .val (.agg [(.int .i64 p0), (.int .i64 p1), (.int .i64 p2)]), .val (.one (.int .i64 p3))] [.box [.nil, .nil, .nil, .nil, .nil, .nil, .nil, .nil, .nil, .nil, .nil, .nil, .nil, .nil, (.int .i64 p4), .nil], .box [.nil, .nil, (.row 2), (.row 3), (.row 4), (.row 5), .nil, .nil, .nil, .nil, .nil, .nil, .nil, .nil, (.int .i64 p5), (.row 6)], .row .int p6, .row .int p7, .row .int p8, .row .int p9, .row .int p10])).run (arena_New_Λ k) = arena_New_L20x3 (k + 1) p0 p1 p2 p3 p4 p5 p6 p7 p8 p9 p10 := by kernel_rfl
set_option maxHeartbeats 0 in
set_option maxRecDepth 5000000 in
theorem arena_New_e20x3 (k : Nat) (vs : List SV) (bs : List Blk) (r : ((List Int) × ((List Int) × ((((List Int) × ((List Int) × ((List Int) × (List Int)))) × (((List Int) × ((List Int) × ((List Int) × (List Int)))) × ((List Int) × ((List Int) × ((List Int) × (List Int)))))) × (Int × (List Int))))) × Int) (h : arena_New_P20v3 (k + 1) vs bs = some (some r)) : ((nthC arena_New_C 0).g (mkSt [4, 9, 35, 36] vs bs)).run (arena_New_Λ k) = some r := by
  unfold arena_New_P20v3 at h
  split at h
  · exact (arena_New_c20x3 k _ _ _ _ _ _ _ _ _ _ _).trans (Option.some.inj h)
  · cases h
set_option maxRecDepth 5000000 in
theorem arena_New_c20x4 (k : Nat) (p0 : Int) (p1 : Int) (p2 : Int) (p3 : Int) (p4 : Int) (p5 : Int) (p6 : List Int) (p7 : List Int) (p8 : List Int) (p9 : List Int) (p10 : List Int) (p11 : List Int) (p12 : List Int) (p13 : List Int) (p14 : List Int) : ((nthC arena_New_C 0).g (mkSt [4, 9, 35, 36] [.val (.one (.ptr 0 0)), .val (.one (.ptr 1 0)), .val (.agg [(.int .i64 p0), (.int .i64 p1), (.int .i64 p2)]), .val (.one (.int .i64 p3))] [.box [.nil, .nil, .nil, .nil, .nil, .nil, .nil, .nil, .nil, .nil, .nil, .nil, .nil, .nil, (.int .i64 p4), .nil], .box [.nil, .nil, .nil, .nil, .nil, .nil, (.row 2), (.row 3), (.row 4), (.row 5), (.row 6), (.row 7), (.row 8), (.row 9), (.int .i64 p5), (.row 10)], .row .int p6, .row .int p7, .row .int p8, .row .int p9, .row .int p10, .row .int p11, .row .int p12, .row .int p13, .row .int p14])).run (arena_New_Λ k) = arena_New_L20x4 (k + 1) p0 p1 p2 p3 p4 p5 p6 p7 p8 p9 p10 p11 p12 p13 p14 := by kernel_rfl
set_option maxHeartbeats 0 in
set_option maxRecDepth 5000000 in
theorem arena_New_e20x4 (k : Nat) (vs : List SV) (bs : List Blk) (r : ((List Int) × ((List Int) × ((((List Int) × ((List Int) × ((List Int) × (List Int)))) × (((List Int) × ((List Int) × ((List Int) × (List Int)))) × ((List Int) × ((List Int) × ((List Int) × (List Int)))))) × (Int × (List Int))))) × Int) (h : arena_New_P20v4 (k + 1) vs bs = some (some r)) : ((nthC arena_New_C 0).g (mkSt [4, 9, 35, 36] vs bs)).run (arena_New_Λ k) = some r := by
  unfold arena_New_P20v4 at h
  split at h
  · exact (arena_New_c20x4 k _ _ _ _ _ _ _ _ _ _ _ _ _ _ _).trans (Option.some.inj h)
  · cases h
set_option maxRecDepth 5000000 in
theorem arena_New_c20x5 (k : Nat) (p0 : Int) (p1 : Int) (p2 : Int) (p3 : Int) (p4 : Int) (p5 : Int) (p6 : List Int) (p7 : List Int) (p8 : List Int) (p9 : List Int) (p10 : List Int) (p11 : List Int) (p12 : List Int) (p13 : List Int) (p14 : List Int) : ((nthC arena_New_C 0).g (mkSt [4, 9, 35, 36] [.val (.one (.ptr 0 0)), .val (.one (.ptr 1 0)), .val (.agg [(.int .i64 p0), (.int .i64 p1), (.int .i64 p2)]), .val (.one (.int .i64 p3))] [.box [.nil, .nil, .nil, .nil, .nil, .nil, .nil, .nil, .nil, .nil, .nil, .nil, .nil, .nil, (.int .i64 p4), .nil], .box [.nil, .nil, (.row 2), (.row 3), (.row 4), (.row 5), .nil, .nil, .nil, .nil, (.row 6), (.row 7), (.row 8), (.row 9), (.int .i64 p5), (.row 10)], .row .int p6, .row .int p7, .row .int p8, .row .int p9, .row .int p10, .row .int p11, .row .int p12, .row .int p13, .row .int p14])).run (arena_New_Λ k) = arena_New_L20x5 (k + 1) p0 p1 p2 p3 p4 p5 p6 p7 p8 p9 p10 p11 p12 p13 p14 := by kernel_rfl
set_option maxHeartbeats 0 in
set_option maxRecDepth 5000000 in
theorem arena_New_e20x5 (k : Nat) (vs : List SV) (bs : List Blk) (r : ((List Int) × ((List Int) × ((((List Int) × ((List Int) × ((List Int) × (List Int)))) × (((List Int) × ((List Int) × ((List Int) × (List Int)))) × ((List Int) × ((List Int) × ((List Int) × (List Int)))))) × (Int × (List Int))))) × Int) (h : arena_New_P20v5 (k + 1) vs bs = some (some r)) : ((nthC arena_New_C 0).g (mkSt [4, 9, 35, 36] vs bs)).run (arena_New_Λ k) = some r := by
  unfold arena_New_P20v5 at h
  split at h
  · exact (arena_New_c20x5 k _ _ _ _ _ _ _ _ _ _ _ _ _ _ _).trans (Option.some.inj h)
  · cases h
set_option maxRecDepth 5000000 in
theorem arena_New_c20x6 (k : Nat) (p0 : Int) (p1 : Int) (p2 : Int) (p3 : Int) (p4 : Int) (p5 : Int) (p6 : List Int) (p7 : List Int) (p8 : List Int) (p9 : List Int) (p10 : List Int) (p11 : List Int) (p12 : List Int) (p13 : List Int) (p14 : List Int) : ((nthC arena_New_C 0).g (mkSt [4, 9, 35, 36] [.val (.one (.ptr 0 0)), .val (.one (.ptr 1 0)), .val (.agg [(.int .i64 p0), (.int .i64 p1), (.int .i64 p2)]), .val (.one (.int .i64 p3))] [.box [.nil, .nil, .nil, .nil, .nil, .nil, .nil, .nil, .nil, .nil, .nil, .nil, .nil, .nil, (.int .i64 p4), .nil], .box [.nil, .nil, (.row 2), (.row 3), (.row 4), (.row 5), (.row 6), (.row 7), (.row 8), (.row 9), .nil, .nil, .nil, .nil, (.int .i64 p5), (.row 10)], .row .int p6, .row .int p7, .row .int p8, .row .int p9, .row .int p10, .row .int p11, .row .int p12, .row .int p13, .row .int p14])).run (arena_New_Λ k) = arena_New_L20x6 (k + 1) p0 p1 p2 p3 p4 p5 p6 p7 p8 p9 p10 p11 p12 p13 p14 := by kernel_rfl
set_option maxHeartbeats 0 in
set_option maxRecDepth 5000000 in
theorem arena_New_e20x6 (k : Nat) (vs : List SV) (bs : List Blk) (r : ((List Int) × ((List Int) × ((((List Int) × ((List Int) × ((List Int) × (List Int)))) × (((List Int) × ((List Int) × ((List Int) × (List Int)))) × ((List Int) × ((List Int) × ((List Int) × (List Int)))))) × (Int × (List Int))))) × Int) (h : arena_New_P20v6 (k + 1) vs bs = some (some r)) : ((nthC arena_New_C 0).g (mkSt [4, 9, 35, 36] vs bs)).run (arena_New_Λ k) = some r := by
  unfold arena_New_P20v6 at h
  split at h
  · exact (arena_New_c20x6 k _ _ _ _ _ _ _ _ _ _ _ _ _ _ _).trans (Option.some.inj h)
  · cases h
set_option maxRecDepth 5000000 in
theorem arena_New_c20x7 (k : Nat) (p0 : Int) (p1 : Int) (p2 : Int) (p3 : Int) (p4 : Int) (p5 : Int) (p6 : List Int) (p7 : List Int) (p8 : List Int) (p9 : List Int) (p10 : List Int) (p11 : List Int) (p12 : List Int) (p13 : List Int) (p14 : List Int) (p15 : List Int) (p16 : List Int) (p17 : List Int) (p18 : List Int) : ((nthC arena_New_C 0).g (mkSt [4, 9, 35, 36] [.val (.one (.ptr 0 0)), .val (.one (.ptr 1 0)), .val (.agg [(.int .i64 p0), (.int .i64 p1), (.int .i64 p2)]), .val (.one (.int .i64 p3))] [.box [.nil, .nil, .nil, .nil, .nil, .nil, .nil, .nil, .nil, .nil, .nil, .nil, .nil, .nil, (.int .i64 p4), .nil], .box [.nil, .nil, (.row 2), (.row 3), (.row 4), (.row 5), (.row 6), (.row 7), (.row 8), (.row 9), (.row 10), (.row 11), (.row 12), (.row 13), (.int .i64 p5), (.row 14)], .row .int p6, .row .int p7, .row .int p8, .row .int p9, .row .int p10, .row .int p11, .row .int p12, .row .int p13, .row .int p14, .row .int p15, .row .int p16, .row .int p17, .row .int p18])).run (arena_New_Λ k) = arena_New_L20x7 (k + 1) p0 p1 p2 p3 p4 p5 p6 p7 p8 p9 p10 p11 p12 p13 p14 p15 p16 p17 p18 := by kernel_rfl
set_option maxHeartbeats 0 in
set_option maxRecDepth 5000000 in
theorem arena_New_e20x7 (k : Nat) (vs : List SV) (bs : List Blk) (r : ((List Int) × ((List Int) × ((((List Int) × ((List Int) × ((List Int) × (List Int)))) × (((List Int) × ((List Int) × ((List Int) × (List Int)))) × ((List Int) × ((List Int) × ((List Int) × (List Int)))))) × (Int × (List Int))))) × Int) (h : arena_New_P20v7 (k + 1) vs bs = some (some r)) : ((nthC arena_New_C 0).g (mkSt [4, 9, 35, 36] vs bs)).run (arena_New_Λ k) = some r := by
  unfold arena_New_P20v7 at h
  split at h
  · exact (arena_New_c20x7 k _ _ _ _ _ _ _ _ _ _ _ _ _ _ _ _ _ _ _).trans (Option.some.inj h)
  · cases h
theorem arena_New_d20 : CutOk arena_New_Λ (nthC arena_New_C 0) := by
  refine cutOk_of (L := 20) (live := [4, 9, 35, 36]) (by kernel_rfl) (by kernel_rfl) fun k vs bs r h => ?_
  change arena_New_P20 (k + 1) vs bs = some r at h
  unfold arena_New_P20 at h
  split at h
  · rename_i q hq
    exact arena_New_e20 k vs bs r (hq.trans (congrArg some h))
  split at h
  · rename_i q hq
    exact arena_New_e20x1 k vs bs r (hq.trans (congrArg some h))
  split at h
  · rename_i q hq
    exact arena_New_e20x2 k vs bs r (hq.trans (congrArg some h))
  split at h
  · rename_i q hq
    exact arena_New_e20x3 k vs bs r (hq.trans (congrArg some h))
  split at h
  · rename_i q hq
    exact arena_New_e20x4 k vs bs r (hq.trans (congrArg some h))
  split at h
  · rename_i q hq
    exact arena_New_e20x5 k vs bs r (hq.trans (congrArg some h))
  split at h
  · rename_i q hq
    exact arena_New_e20x6 k vs bs r (hq.trans (congrArg some h))
  split at h
  · rename_i q hq
    exact arena_New_e20x7 k vs bs r (hq.trans (congrArg some h))
  cases h
theorem arena_New_cuts : ∀ p ∈ cuts Try.prog (lkΓ [(34, place_Check_S), (35, era_New_S), (36, pool_New_S)]) Try.f11.ntmps [(20, [4, 9, 35, 36])] (bodyOf Try.f11) (κ0 Try.prog Try.f11 true [⟨true, (.pair (.sl .int) (.pair (.sl .int) (.pair (.pair (.pair (.sl .int) (.pair (.sl .int) (.pair (.sl .int) (.sl .int)))) (.pair (.pair (.sl .int) (.pair (.sl .int) (.pair (.sl .int) (.sl .int)))) (.pair (.sl .int) (.pair (.sl .int) (.pair (.sl .int) (.sl .int)))))) (.pair .int (.sl .int)))))⟩, ⟨false, .int⟩]), CutOk arena_New_Λ p := cutsOk (l := arena_New_C) (n := 1) (by kernel_rfl) fun
  | 0, _ => arena_New_d20
  | k + 1, h => absurd h (by omega)
set_option maxHeartbeats 0 in
set_option maxRecDepth 5000000 in
theorem arena_New_z20 (vs : List SV) (bs : List Blk) (q : Option (((List Int) × ((List Int) × ((((List Int) × ((List Int) × ((List Int) × (List Int)))) × (((List Int) × ((List Int) × ((List Int) × (List Int)))) × ((List Int) × ((List Int) × ((List Int) × (List Int)))))) × (Int × (List Int))))) × Int)) (h : arena_New_P20v0 0 vs bs = some q) : q = none := by
  unfold arena_New_P20v0 at h; split at h
  · have h := Option.some.inj h; rw [← h]; first | rfl | (unfold arena_New_L20; rfl)
  · cases h
set_option maxHeartbeats 0 in
set_option maxRecDepth 5000000 in
theorem arena_New_z20x1 (vs : List SV) (bs : List Blk) (q : Option (((List Int) × ((List Int) × ((((List Int) × ((List Int) × ((List Int) × (List Int)))) × (((List Int) × ((List Int) × ((List Int) × (List Int)))) × ((List Int) × ((List Int) × ((List Int) × (List Int)))))) × (Int × (List Int))))) × Int)) (h : arena_New_P20v1 0 vs bs = some q) : q = none := by
  unfold arena_New_P20v1 at h; split at h
  · have h := Option.some.inj h; rw [← h]; first | rfl | (unfold arena_New_L20x1; rfl)
  · cases h
set_option maxHeartbeats 0 in
set_option maxRecDepth 5000000 in
theorem arena_New_z20x2 (vs : List SV) (bs : List Blk) (q : Option (((List Int) × ((List Int) × ((((List Int) × ((List Int) × ((List Int) × (List Int)))) × (((List Int) × ((List Int) × ((List Int) × (List Int)))) × ((List Int) × ((List Int) × ((List Int) × (List Int)))))) × (Int × (List Int))))) × Int)) (h : arena_New_P20v2 0 vs bs = some q) : q = none := by
  unfold arena_New_P20v2 at h; split at h
  · have h := Option.some.inj h; rw [← h]; first | rfl | (unfold arena_New_L20x2; rfl)
  · cases h
set_option maxHeartbeats 0 in
set_option maxRecDepth 5000000 in
theorem arena_New_z20x3 (vs : List SV) (bs : List Blk) (q : Option (((List Int) × ((List Int) × ((((List Int) × ((List Int) × ((List Int) × (List Int)))) × (((List Int) × ((List Int) × ((List Int) × (List Int)))) × ((List Int) × ((List Int) × ((List Int) × (List Int)))))) × (Int × (List Int))))) × Int)) (h : arena_New_P20v3 0 vs bs = some q) : q = none := by
  unfold arena_New_P20v3 at h; split at h
  · have h := Option.some.inj h; rw [← h]; first | rfl | (unfold arena_New_L20x3; rfl)
  · cases h
set_option maxHeartbeats 0 in
set_option maxRecDepth 5000000 in
theorem arena_New_z20x4 (vs : List SV) (bs : List Blk) (q : Option (((List Int) × ((List Int) × ((((List Int) × ((List Int) × ((List Int) × (List Int)))) × (((List Int) × ((List Int) × ((List Int) × (List Int)))) × ((List Int) × ((List Int) × ((List Int) × (List Int)))))) × (Int × (List Int))))) × Int)) (h : arena_New_P20v4 0 vs bs = some q) : q = none := by
  unfold arena_New_P20v4 at h; split at h
  · have h := Option.some.inj h; rw [← h]; first | rfl | (unfold arena_New_L20x4; rfl)
  · cases h
set_option maxHeartbeats 0 in
set_option maxRecDepth 5000000 in
theorem arena_New_z20x5 (vs : List SV) (bs : List Blk) (q : Option (((List Int) × ((List Int) × ((((List Int) × ((List Int) × ((List Int) × (List Int)))) × (((List Int) × ((List Int) × ((List Int) × (List Int)))) × ((List Int) × ((List Int) × ((List Int) × (List Int)))))) × (Int × (List Int))))) × Int)) (h : arena_New_P20v5 0 vs bs = some q) : q = none := by
  unfold arena_New_P20v5 at h; split at h
  · have h := Option.some.inj h; rw [← h]; first | rfl | (unfold arena_New_L20x5; rfl)
  · cases h
set_option maxHeartbeats 0 in
set_option maxRecDepth 5000000 in
theorem arena_New_z20x6 (vs : List SV) (bs : List Blk) (q : Option (((List Int) × ((List Int) × ((((List Int) × ((List Int) × ((List Int) × (List Int)))) × (((List Int) × ((List Int) × ((List Int) × (List Int)))) × ((List Int) × ((List Int) × ((List Int) × (List Int)))))) × (Int × (List Int))))) × Int)) (h : arena_New_P20v6 0 vs bs = some q) : q = none := by
  unfold arena_New_P20v6 at h; split at h
  · have h := Option.some.inj h; rw [← h]; first | rfl | (unfold arena_New_L20x6; rfl)
  · cases h
set_option maxHeartbeats 0 in
set_option maxRecDepth 5000000 in
theorem arena_New_z20x7 (vs : List SV) (bs : List Blk) (q : Option (((List Int) × ((List Int) × ((((List Int) × ((List Int) × ((List Int) × (List Int)))) × (((List Int) × ((List Int) × ((List Int) × (List Int)))) × ((List Int) × ((List Int) × ((List Int) × (List Int)))))) × (Int × (List Int))))) × Int)) (h : arena_New_P20v7 0 vs bs = some q) : q = none := by
  unfold arena_New_P20v7 at h; split at h
  · have h := Option.some.inj h; rw [← h]; first | rfl | (unfold arena_New_L20x7; rfl)
  · cases h
theorem arena_New_Λ0 (L : Nat) (vs : List SV) (bs : List Blk) : arena_New_Λ 0 L vs bs = none := by
  unfold arena_New_Λ
  split
  · unfold arena_New_P20
    split
    · rename_i q hq; exact arena_New_z20 _ _ q hq
    split
    · rename_i q hq; exact arena_New_z20x1 _ _ q hq
    split
    · rename_i q hq; exact arena_New_z20x2 _ _ q hq
    split
    · rename_i q hq; exact arena_New_z20x3 _ _ q hq
    split
    · rename_i q hq; exact arena_New_z20x4 _ _ q hq
    split
    · rename_i q hq; exact arena_New_z20x5 _ _ q hq
    split
    · rename_i q hq; exact arena_New_z20x6 _ _ q hq
    split
    · rename_i q hq; exact arena_New_z20x7 _ _ q hq
    rfl
  rfl
set_option maxRecDepth 5000000 in
theorem arena_New_run (K : Nat) (x : Tup [⟨true, (.pair .int (.pair .int (.pair .int (.pair .int .int))))⟩, ⟨false, .int⟩]) : (pxFn Try.prog (lkΓ [(34, place_Check_S), (35, era_New_S), (36, pool_New_S)]) [(20, [4, 9, 35, 36])] Try.f11 (bodyOf Try.f11) true [⟨true, (.pair (.sl .int) (.pair (.sl .int) (.pair (.pair (.pair (.sl .int) (.pair (.sl .int) (.pair (.sl .int) (.sl .int)))) (.pair (.pair (.sl .int) (.pair (.sl .int) (.pair (.sl .int) (.sl .int)))) (.pair (.sl .int) (.pair (.sl .int) (.pair (.sl .int) (.sl .int)))))) (.pair .int (.sl .int)))))⟩, ⟨false, .int⟩] (encTup [⟨true, (.pair .int (.pair .int (.pair .int (.pair .int .int))))⟩, ⟨false, .int⟩] x)).run (arena_New_Λ K) = arena_New_K K x := by kernel_rfl
set_option maxHeartbeats 0 in
set_option maxRecDepth 5000000 in
def slices_IndexFunc_era_Check_1_P6v0 (k : Nat) (vs : List SV) (bs : List Blk) : Option (Option (Int)) := match vs, bs with
  | [.val (.one (.sl .int p0)), .val (.one (.clo 65 (.ref (.pair .int (.sl .int))) p1)), .val (.one (.int .i64 p2)), .val (.one (.int .i64 p3))], [] => some (slices_IndexFunc_era_Check_1_L6 k p0 p1 p2 p3)
  | _, _ => none
def slices_IndexFunc_era_Check_1_P6 (k : Nat) (vs : List SV) (bs : List Blk) : Option (Int) := match slices_IndexFunc_era_Check_1_P6v0 k vs bs with | some r => r | none => none
def slices_IndexFunc_era_Check_1_Λ (k L : Nat) (vs : List SV) (bs : List Blk) : Option (Int) := match Nat.beq L 6 with | true => slices_IndexFunc_era_Check_1_P6 k vs bs | false => none
noncomputable def slices_IndexFunc_era_Check_1_C : List (Cut (Tup [⟨false, .int⟩])) := cuts Try.prog (lkΓ [(65, era_Check_1_S)]) Try.f78.ntmps [(6, [0, 1, 7, 8])] (bodyOf Try.f78) (κ0 Try.prog Try.f78 false [⟨false, .int⟩])
set_option maxRecDepth 5000000 in
theorem slices_IndexFunc_era_Check_1_c6 (k : Nat) (p0 : List Int) (p1 : Int × List Int) (p2 : Int) (p3 : Int) : ((nthC slices_IndexFunc_era_Check_1_C 0).g (mkSt [0, 1, 7, 8] [.val (.one (.sl .int p0)), .val (.one (.clo 65 (.ref (.pair .int (.sl .int))) p1)), .val (.one (.int .i64 p2)), .val (.one (.int .i64 p3))] [])).run (slices_IndexFunc_era_Check_1_Λ k) = slices_IndexFunc_era_Check_1_L6 (k + 1) p0 p1 p2 p3 := by kernel_rfl
set_option maxHeartbeats 0 in
set_option maxRecDepth 5000000 in
theorem slices_IndexFunc_era_Check_1_e6 (k : Nat) (vs : List SV) (bs : List Blk) (r : Int) (h : slices_IndexFunc_era_Check_1_P6v0 (k + 1) vs bs = some (some r)) : ((nthC slices_IndexFunc_era_Check_1_C 0).g (mkSt [0, 1, 7, 8] vs bs)).run (slices_IndexFunc_era_Check_1_Λ k) = some r := by
  unfold slices_IndexFunc_era_Check_1_P6v0 at h
  split at h
  · exact (slices_IndexFunc_era_Check_1_c6 k _ _ _ _).trans (Option.some.inj h)
  · cases h
theorem slices_IndexFunc_era_Check_1_d6 : CutOk slices_IndexFunc_era_Check_1_Λ (nthC slices_IndexFunc_era_Check_1_C 0) := by
  refine cutOk_of (L := 6) (live := [0, 1, 7, 8]) (by kernel_rfl) (by kernel_rfl) fun k vs bs r h => ?_
  change slices_IndexFunc_era_Check_1_P6 (k + 1) vs bs = some r at h
  unfold slices_IndexFunc_era_Check_1_P6 at h
  split at h
  · rename_i q hq
    exact slices_IndexFunc_era_Check_1_e6 k vs bs r (hq.trans (congrArg some h))
  cases h
theorem slices_IndexFunc_era_Check_1_cuts : ∀ p ∈ cuts Try.prog (lkΓ [(65, era_Check_1_S)]) Try.f78.ntmps [(6, [0, 1, 7, 8])] (bodyOf Try.f78) (κ0 Try.prog Try.f78 false [⟨false, .int⟩]), CutOk slices_IndexFunc_era_Check_1_Λ p := cutsOk (l := slices_IndexFunc_era_Check_1_C) (n := 1) (by kernel_rfl) fun
  | 0, _ => slices_IndexFunc_era_Check_1_d6
  | k + 1, h => absurd h (by omega)
set_option maxHeartbeats 0 in
set_option maxRecDepth 5000000 in
theorem slices_IndexFunc_era_Check_1_z6 (vs : List SV) (bs : List Blk) (q : Option (Int)) (h : slices_IndexFunc_era_Check_1_P6v0 0 vs bs = some q) : q = none := by
  unfold slices_IndexFunc_era_Check_1_P6v0 at h; split at h
  · have h := Option.some.inj h; rw [← h]; first | rfl | (unfold slices_IndexFunc_era_Check_1_L6; rfl)
  · cases h
theorem slices_IndexFunc_era_Check_1_Λ0 (L : Nat) (vs : List SV) (bs : List Blk) : slices_IndexFunc_era_Check_1_Λ 0 L vs bs = none := by
  unfold slices_IndexFunc_era_Check_1_Λ
  split
  · unfold slices_IndexFunc_era_Check_1_P6
    split
    · rename_i q hq; exact slices_IndexFunc_era_Check_1_z6 _ _ q hq
    rfl
  rfl
set_option maxRecDepth 5000000 in
theorem slices_IndexFunc_era_Check_1_run (K : Nat) (x : Tup [⟨false, (.sl .int)⟩, ⟨false, (.clo 65 (.ref (.pair .int (.sl .int))))⟩]) : (pxFn Try.prog (lkΓ [(65, era_Check_1_S)]) [(6, [0, 1, 7, 8])] Try.f78 (bodyOf Try.f78) false [⟨false, .int⟩] (encTup [⟨false, (.sl .int)⟩, ⟨false, (.clo 65 (.ref (.pair .int (.sl .int))))⟩] x)).run (slices_IndexFunc_era_Check_1_Λ K) = slices_IndexFunc_era_Check_1_K K x := by kernel_rfl
set_option maxHeartbeats 0 in
set_option maxRecDepth 5000000 in
def tendrilref03_Check_P6v0 (k : Nat) (vs : List SV) (bs : List Blk) : Option (Option (Int)) := match vs, bs with
  | [.val (.one (.row 0)), .val (.one (.int .i64 p0)), .val (.one (.int .i64 p1))], [.row .int p2] => some (tendrilref03_Check_L6 k p0 p1 p2)
  | _, _ => none
def tendrilref03_Check_P6 (k : Nat) (vs : List SV) (bs : List Blk) : Option (Int) := match tendrilref03_Check_P6v0 k vs bs with | some r => r | none => none
def tendrilref03_Check_Λ (k L : Nat) (vs : List SV) (bs : List Blk) : Option (Int) := match Nat.beq L 6 with | true => tendrilref03_Check_P6 k vs bs | false => none
noncomputable def tendrilref03_Check_C : List (Cut (Tup [⟨false, .int⟩])) := cuts Try.prog (lkΓ []) Try.f38.ntmps [(6, [15, 16, 17])] (bodyOf Try.f38) (κ0 Try.prog Try.f38 false [⟨false, .int⟩])
set_option maxRecDepth 5000000 in
theorem tendrilref03_Check_c6 (k : Nat) (p0 : Int) (p1 : Int) (p2 : List Int) : ((nthC tendrilref03_Check_C 0).g (mkSt [15, 16, 17] [.val (.one (.row 0)), .val (.one (.int .i64 p0)), .val (.one (.int .i64 p1))] [.row .int p2])).run (tendrilref03_Check_Λ k) = tendrilref03_Check_L6 (k + 1) p0 p1 p2 := by kernel_rfl
set_option maxHeartbeats 0 in
set_option maxRecDepth 5000000 in
theorem tendrilref03_Check_e6 (k : Nat) (vs : List SV) (bs : List Blk) (r : Int) (h : tendrilref03_Check_P6v0 (k + 1) vs bs = some (some r)) : ((nthC tendrilref03_Check_C 0).g (mkSt [15, 16, 17] vs bs)).run (tendrilref03_Check_Λ k) = some r := by
  unfold tendrilref03_Check_P6v0 at h
  split at h
  · exact (tendrilref03_Check_c6 k _ _ _).trans (Option.some.inj h)
  · cases h
theorem tendrilref03_Check_d6 : CutOk tendrilref03_Check_Λ (nthC tendrilref03_Check_C 0) := by
  refine cutOk_of (L := 6) (live := [15, 16, 17]) (by kernel_rfl) (by kernel_rfl) fun k vs bs r h => ?_
  change tendrilref03_Check_P6 (k + 1) vs bs = some r at h
  unfold tendrilref03_Check_P6 at h
  split at h
  · rename_i q hq
    exact tendrilref03_Check_e6 k vs bs r (hq.trans (congrArg some h))
  cases h
theorem tendrilref03_Check_cuts : ∀ p ∈ cuts Try.prog (lkΓ []) Try.f38.ntmps [(6, [15, 16, 17])] (bodyOf Try.f38) (κ0 Try.prog Try.f38 false [⟨false, .int⟩]), CutOk tendrilref03_Check_Λ p := cutsOk (l := tendrilref03_Check_C) (n := 1) (by kernel_rfl) fun
  | 0, _ => tendrilref03_Check_d6
  | k + 1, h => absurd h (by omega)
set_option maxHeartbeats 0 in
set_option maxRecDepth 5000000 in
theorem tendrilref03_Check_z6 (vs : List SV) (bs : List Blk) (q : Option (Int)) (h : tendrilref03_Check_P6v0 0 vs bs = some q) : q = none := by
  unfold tendrilref03_Check_P6v0 at h; split at h
  · have h := Option.some.inj h; rw [← h]; first | rfl | (unfold tendrilref03_Check_L6; rfl)
  · cases h
theorem tendrilref03_Check_Λ0 (L : Nat) (vs : List SV) (bs : List Blk) : tendrilref03_Check_Λ 0 L vs bs = none := by
  unfold tendrilref03_Check_Λ
  split
  · unfold tendrilref03_Check_P6
    split
    · rename_i q hq; exact tendrilref03_Check_z6 _ _ q hq
    rfl
  rfl
set_option maxRecDepth 5000000 in
theorem tendrilref03_Check_run (K : Nat) (x : Tup [⟨true, (.pair .int (.pair .int (.pair .int (.pair .int .int))))⟩]) : (pxFn Try.prog (lkΓ []) [(6, [15, 16, 17])] Try.f38 (bodyOf Try.f38) false [⟨false, .int⟩] (encTup [⟨true, (.pair .int (.pair .int (.pair .int (.pair .int .int))))⟩] x)).run (tendrilref03_Check_Λ K) = tendrilref03_Check_K K x := by kernel_rfl
set_option maxRecDepth 5000000 in
theorem arena_End_run (x : Tup [⟨true, (.pair (.sl .int) (.pair (.sl .int) (.pair (.pair (.pair (.sl .int) (.pair (.sl .int) (.pair (.sl .int) (.sl .int)))) (.pair (.pair (.sl .int) (.pair (.sl .int) (.pair (.sl .int) (.sl .int)))) (.pair (.sl .int) (.pair (.sl .int) (.pair (.sl .int) (.sl .int)))))) (.pair .int (.sl .int)))))⟩, ⟨false, .int⟩]) : (pxFn Try.prog (lkΓ [(24, arena_Turn_S), (46, arena_may_S), (61, era_Unpin_S)]) [] Try.f29 (bodyOf Try.f29) false [⟨true, (.pair (.sl .int) (.pair (.sl .int) (.pair (.pair (.pair (.sl .int) (.pair (.sl .int) (.pair (.sl .int) (.sl .int)))) (.pair (.pair (.sl .int) (.pair (.sl .int) (.pair (.sl .int) (.sl .int)))) (.pair (.sl .int) (.pair (.sl .int) (.pair (.sl .int) (.sl .int)))))) (.pair .int (.sl .int)))))⟩, ⟨false, .int⟩] (encTup [⟨true, (.pair (.sl .int) (.pair (.sl .int) (.pair (.pair (.pair (.sl .int) (.pair (.sl .int) (.pair (.sl .int) (.sl .int)))) (.pair (.pair (.sl .int) (.pair (.sl .int) (.pair (.sl .int) (.sl .int)))) (.pair (.sl .int) (.pair (.sl .int) (.pair (.sl .int) (.sl .int)))))) (.pair .int (.sl .int)))))⟩, ⟨false, .int⟩] x)).run (fun _ _ _ => none) = arena_End x := by kernel_rfl
theorem arena_End_cuts : ∀ p ∈ cuts Try.prog (lkΓ [(24, arena_Turn_S), (46, arena_may_S), (61, era_Unpin_S)]) Try.f29.ntmps [] (bodyOf Try.f29) (κ0 Try.prog Try.f29 false [⟨true, (.pair (.sl .int) (.pair (.sl .int) (.pair (.pair (.pair (.sl .int) (.pair (.sl .int) (.pair (.sl .int) (.sl .int)))) (.pair (.pair (.sl .int) (.pair (.sl .int) (.pair (.sl .int) (.sl .int)))) (.pair (.sl .int) (.pair (.sl .int) (.pair (.sl .int) (.sl .int)))))) (.pair .int (.sl .int)))))⟩, ⟨false, .int⟩]), CutOk (fun _ _ _ _ => none) p := cutsNil (by kernel_rfl)
set_option maxRecDepth 5000000 in
theorem arena_Gen_run (x : Tup [⟨true, (.pair (.sl .int) (.pair (.sl .int) (.pair (.pair (.pair (.sl .int) (.pair (.sl .int) (.pair (.sl .int) (.sl .int)))) (.pair (.pair (.sl .int) (.pair (.sl .int) (.pair (.sl .int) (.sl .int)))) (.pair (.sl .int) (.pair (.sl .int) (.pair (.sl .int) (.sl .int)))))) (.pair .int (.sl .int)))))⟩, ⟨false, .int⟩, ⟨false, .int⟩]) : (pxFn Try.prog (lkΓ [(31, tag_Unpack_S), (46, arena_may_S)]) [] Try.f22 (bodyOf Try.f22) false [⟨false, .int⟩, ⟨false, .int⟩, ⟨false, .int⟩] (encTup [⟨true, (.pair (.sl .int) (.pair (.sl .int) (.pair (.pair (.pair (.sl .int) (.pair (.sl .int) (.pair (.sl .int) (.sl .int)))) (.pair (.pair (.sl .int) (.pair (.sl .int) (.pair (.sl .int) (.sl .int)))) (.pair (.sl .int) (.pair (.sl .int) (.pair (.sl .int) (.sl .int)))))) (.pair .int (.sl .int)))))⟩, ⟨false, .int⟩, ⟨false, .int⟩] x)).run (fun _ _ _ => none) = arena_Gen x := by kernel_rfl
theorem arena_Gen_cuts : ∀ p ∈ cuts Try.prog (lkΓ [(31, tag_Unpack_S), (46, arena_may_S)]) Try.f22.ntmps [] (bodyOf Try.f22) (κ0 Try.prog Try.f22 false [⟨false, .int⟩, ⟨false, .int⟩, ⟨false, .int⟩]), CutOk (fun _ _ _ _ => none) p := cutsNil (by kernel_rfl)
set_option maxRecDepth 5000000 in
theorem tendrilref05_Same_run (x : Tup [⟨true, (.pair (.sl .int) (.pair (.sl .int) (.pair (.sl .int) (.sl .int))))⟩, ⟨true, (.pair (.sl .int) (.pair (.sl .int) (.pair (.sl .int) (.sl .int))))⟩]) : (pxFn Try.prog (lkΓ [(41, tendrilref02_Same_S)]) [] Try.f18 (bodyOf Try.f18) false [⟨false, .bool⟩] (encTup [⟨true, (.pair (.sl .int) (.pair (.sl .int) (.pair (.sl .int) (.sl .int))))⟩, ⟨true, (.pair (.sl .int) (.pair (.sl .int) (.pair (.sl .int) (.sl .int))))⟩] x)).run (fun _ _ _ => none) = tendrilref05_Same x := by kernel_rfl
theorem tendrilref05_Same_cuts : ∀ p ∈ cuts Try.prog (lkΓ [(41, tendrilref02_Same_S)]) Try.f18.ntmps [] (bodyOf Try.f18) (κ0 Try.prog Try.f18 false [⟨false, .bool⟩]), CutOk (fun _ _ _ _ => none) p := cutsNil (by kernel_rfl)
set_option maxRecDepth 5000000 in
theorem math_bits_Mul_run (x : Tup [⟨false, (.num .u64)⟩, ⟨false, (.num .u64)⟩]) : (pxFn Try.prog (lkΓ [(79, math_bits_Mul32_S), (80, math_bits_Mul64_S)]) [] Try.f76 (bodyOf Try.f76) false [⟨false, (.num .u64)⟩, ⟨false, (.num .u64)⟩] (encTup [⟨false, (.num .u64)⟩, ⟨false, (.num .u64)⟩] x)).run (fun _ _ _ => none) = math_bits_Mul x := by kernel_rfl
theorem math_bits_Mul_cuts : ∀ p ∈ cuts Try.prog (lkΓ [(79, math_bits_Mul32_S), (80, math_bits_Mul64_S)]) Try.f76.ntmps [] (bodyOf Try.f76) (κ0 Try.prog Try.f76 false [⟨false, (.num .u64)⟩, ⟨false, (.num .u64)⟩]), CutOk (fun _ _ _ _ => none) p := cutsNil (by kernel_rfl)
set_option maxRecDepth 5000000 in
theorem era_with_run (x : Tup [⟨true, (.pair .int (.sl .int))⟩, ⟨false, .int⟩, ⟨false, .int⟩]) : (pxFn Try.prog (lkΓ [(71, slices_Clone_S)]) [] Try.f74 (bodyOf Try.f74) true [⟨true, (.pair .int (.sl .int))⟩] (encTup [⟨true, (.pair .int (.sl .int))⟩, ⟨false, .int⟩, ⟨false, .int⟩] x)).run (fun _ _ _ => none) = era_with x := by kernel_rfl
theorem era_with_cuts : ∀ p ∈ cuts Try.prog (lkΓ [(71, slices_Clone_S)]) Try.f74.ntmps [] (bodyOf Try.f74) (κ0 Try.prog Try.f74 true [⟨true, (.pair .int (.sl .int))⟩]), CutOk (fun _ _ _ _ => none) p := cutsNil (by kernel_rfl)
set_option maxRecDepth 5000000 in
theorem slices_Contains_run (x : Tup [⟨false, (.sl .bool)⟩, ⟨false, .bool⟩]) : (pxFn Try.prog (lkΓ [(77, slices_Index_S)]) [] Try.f64 (bodyOf Try.f64) false [⟨false, .bool⟩] (encTup [⟨false, (.sl .bool)⟩, ⟨false, .bool⟩] x)).run (fun _ _ _ => none) = slices_Contains x := by kernel_rfl
theorem slices_Contains_cuts : ∀ p ∈ cuts Try.prog (lkΓ [(77, slices_Index_S)]) Try.f64.ntmps [] (bodyOf Try.f64) (κ0 Try.prog Try.f64 false [⟨false, .bool⟩]), CutOk (fun _ _ _ _ => none) p := cutsNil (by kernel_rfl)
set_option maxRecDepth 5000000 in
theorem era_Safe_run (x : Tup [⟨true, (.pair .int (.sl .int))⟩]) : (pxFn Try.prog (lkΓ [(43, era_Check_S)]) [] Try.f55 (bodyOf Try.f55) false [⟨false, .int⟩] (encTup [⟨true, (.pair .int (.sl .int))⟩] x)).run (fun _ _ _ => none) = era_Safe x := by kernel_rfl
theorem era_Safe_cuts : ∀ p ∈ cuts Try.prog (lkΓ [(43, era_Check_S)]) Try.f55.ntmps [] (bodyOf Try.f55) (κ0 Try.prog Try.f55 false [⟨false, .int⟩]), CutOk (fun _ _ _ _ => none) p := cutsNil (by kernel_rfl)
end Go.Proofs.YtcoiboghdmmdcacFn
