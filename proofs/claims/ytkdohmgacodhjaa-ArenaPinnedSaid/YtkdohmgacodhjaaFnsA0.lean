/- What the interpreter of code computes of these functions, part 0; no condition. -/
import Derived.Test.YtkdohmgacodhjaaProg
import Derived.KernelRfl
import Derived.Test.YtkdohmgacodhjaaPx25
import Derived.Test.YtkdohmgacodhjaaFnsD
set_option linter.unusedVariables false
set_option linter.unusedSimpArgs false
namespace Go.Proofs.YtkdohmgacodhjaaFn
open Go Go.RowKit Go.Proofs.YtkdohmgacodhjaaPx
set_option maxHeartbeats 0 in
set_option maxRecDepth 5000000 in
def arena_Turn_P16v0 (k : Nat) (vs : List SV) (bs : List Blk) : Option (Option ((List Int × List Int × ((List Int × List Int × List Int × List Int) × (List Int × List Int × List Int × List Int) × List Int × List Int × List Int × List Int) × Int × List Int) × Bool)) := match vs, bs with
  | [.val (.one (.ptr 0 0)), .val (.one (.ptr 1 0)), .val (.one (.ptr 2 0)), .val (.one (.bool p0)), .val (.agg [(.sl .int p1), (.sl .int p2), (.sl .int p3), (.sl .int p4), (.sl .int p5), (.sl .int p6), (.sl .int p7), (.sl .int p8), (.sl .int p9), (.sl .int p10), (.sl .int p11), (.sl .int p12)]), .val (.one (.int .i64 p13))], [.box [(.sl .int p14), (.sl .int p15), (.sl .int p16), (.sl .int p17), (.sl .int p18), (.sl .int p19), (.sl .int p20), (.sl .int p21), (.sl .int p22), (.sl .int p23), (.sl .int p24), (.sl .int p25), (.sl .int p26), (.sl .int p27), (.int .i64 p28), (.row 3)], .box [.nil, .nil, .nil, .nil, .nil, .nil, .nil, .nil, .nil, .nil, .nil, .nil, .nil, .nil, (.int .i64 p29), .nil], .box [(.int .i64 p30), (.row 3)], .row .int p31] => some (arena_Turn_L16 k p0 p1 p2 p3 p4 p5 p6 p7 p8 p9 p10 p11 p12 p13 p14 p15 p16 p17 p18 p19 p20 p21 p22 p23 p24 p25 p26 p27 p28 p29 p30 p31)
  | _, _ => none
set_option maxHeartbeats 0 in
set_option maxRecDepth 5000000 in
def arena_Turn_P16v1 (k : Nat) (vs : List SV) (bs : List Blk) : Option (Option ((List Int × List Int × ((List Int × List Int × List Int × List Int) × (List Int × List Int × List Int × List Int) × List Int × List Int × List Int × List Int) × Int × List Int) × Bool)) := match vs, bs with
  | [.val (.one (.ptr 0 0)), .val (.one (.ptr 1 0)), .val (.one (.ptr 2 0)), .val (.one (.bool p0)), .val (.agg [(.sl .int p1), (.sl .int p2), (.sl .int p3), (.sl .int p4), (.sl .int p5), (.sl .int p6), (.sl .int p7), (.sl .int p8), (.sl .int p9), (.sl .int p10), (.sl .int p11), (.sl .int p12)]), .val (.one (.int .i64 p13))], [.box [(.sl .int p14), (.sl .int p15), (.sl .int p16), (.sl .int p17), (.sl .int p18), (.sl .int p19), (.sl .int p20), (.sl .int p21), (.sl .int p22), (.sl .int p23), (.row 3), (.row 4), (.row 5), (.row 6), (.int .i64 p24), (.row 7)], .box [.nil, .nil, .nil, .nil, .nil, .nil, .nil, .nil, .nil, .nil, .nil, .nil, .nil, .nil, (.int .i64 p25), .nil], .box [(.int .i64 p26), (.row 7)], .row .int p27, .row .int p28, .row .int p29, .row .int p30, .row .int p31] => some (arena_Turn_L16x1 k p0 p1 p2 p3 p4 p5 p6 p7 p8 p9 p10 p11 p12 p13 p14 p15 p16 p17 p18 p19 p20 p21 p22 p23 p24 p25 p26 p27 p28 p29 p30 p31)
  | _, _ => none
set_option maxHeartbeats 0 in
set_option maxRecDepth 5000000 in
def arena_Turn_P16v2 (k : Nat) (vs : List SV) (bs : List Blk) : Option (Option ((List Int × List Int × ((List Int × List Int × List Int × List Int) × (List Int × List Int × List Int × List Int) × List Int × List Int × List Int × List Int) × Int × List Int) × Bool)) := match vs, bs with
  | [.val (.one (.ptr 0 0)), .val (.one (.ptr 1 0)), .val (.one (.ptr 2 0)), .val (.one (.bool p0)), .val (.agg [(.sl .int p1), (.sl .int p2), (.sl .int p3), (.sl .int p4), (.sl .int p5), (.sl .int p6), (.sl .int p7), (.sl .int p8), (.sl .int p9), (.sl .int p10), (.sl .int p11), (.sl .int p12)]), .val (.one (.int .i64 p13))], [.box [(.sl .int p14), (.sl .int p15), (.sl .int p16), (.sl .int p17), (.sl .int p18), (.sl .int p19), (.row 3), (.row 4), (.row 5), (.row 6), (.sl .int p20), (.sl .int p21), (.sl .int p22), (.sl .int p23), (.int .i64 p24), (.row 7)], .box [.nil, .nil, .nil, .nil, .nil, .nil, .nil, .nil, .nil, .nil, .nil, .nil, .nil, .nil, (.int .i64 p25), .nil], .box [(.int .i64 p26), (.row 7)], .row .int p27, .row .int p28, .row .int p29, .row .int p30, .row .int p31] => some (arena_Turn_L16x2 k p0 p1 p2 p3 p4 p5 p6 p7 p8 p9 p10 p11 p12 p13 p14 p15 p16 p17 p18 p19 p20 p21 p22 p23 p24 p25 p26 p27 p28 p29 p30 p31)
  | _, _ => none
set_option maxHeartbeats 0 in
set_option maxRecDepth 5000000 in
def arena_Turn_P16v3 (k : Nat) (vs : List SV) (bs : List Blk) : Option (Option ((List Int × List Int × ((List Int × List Int × List Int × List Int) × (List Int × List Int × List Int × List Int) × List Int × List Int × List Int × List Int) × Int × List Int) × Bool)) := match vs, bs with
  | [.val (.one (.ptr 0 0)), .val (.one (.ptr 1 0)), .val (.one (.ptr 2 0)), .val (.one (.bool p0)), .val (.agg [(.sl .int p1), (.sl .int p2), (.sl .int p3), (.sl .int p4), (.sl .int p5), (.sl .int p6), (.sl .int p7), (.sl .int p8), (.sl .int p9), (.sl .int p10), (.sl .int p11), (.sl .int p12)]), .val (.one (.int .i64 p13))], [.box [(.sl .int p14), (.sl .int p15), (.row 3), (.row 4), (.row 5), (.row 6), (.sl .int p16), (.sl .int p17), (.sl .int p18), (.sl .int p19), (.sl .int p20), (.sl .int p21), (.sl .int p22), (.sl .int p23), (.int .i64 p24), (.row 7)], .box [.nil, .nil, .nil, .nil, .nil, .nil, .nil, .nil, .nil, .nil, .nil, .nil, .nil, .nil, (.int .i64 p25), .nil], .box [(.int .i64 p26), (.row 7)], .row .int p27, .row .int p28, .row .int p29, .row .int p30, .row .int p31] => some (arena_Turn_L16x3 k p0 p1 p2 p3 p4 p5 p6 p7 p8 p9 p10 p11 p12 p13 p14 p15 p16 p17 p18 p19 p20 p21 p22 p23 p24 p25 p26 p27 p28 p29 p30 p31)
  | _, _ => none
set_option maxHeartbeats 0 in
set_option maxRecDepth 5000000 in
def arena_Turn_P16v4 (k : Nat) (vs : List SV) (bs : List Blk) : Option (Option ((List Int × List Int × ((List Int × List Int × List Int × List Int) × (List Int × List Int × List Int × List Int) × List Int × List Int × List Int × List Int) × Int × List Int) × Bool)) := match vs, bs with
  | [.val (.one (.ptr 0 0)), .val (.one (.ptr 1 0)), .val (.one (.ptr 2 0)), .val (.one (.bool p0)), .val (.agg [(.sl .int p1), (.sl .int p2), (.sl .int p3), (.sl .int p4), (.sl .int p5), (.sl .int p6), (.sl .int p7), (.sl .int p8), (.sl .int p9), (.sl .int p10), (.sl .int p11), (.sl .int p12)]), .val (.one (.int .i64 p13))], [.box [(.sl .int p14), (.sl .int p15), (.sl .int p16), (.sl .int p17), (.sl .int p18), (.sl .int p19), (.row 3), (.row 4), (.row 5), (.row 6), (.row 7), (.row 8), (.row 9), (.row 10), (.int .i64 p20), (.row 11)], .box [.nil, .nil, .nil, .nil, .nil, .nil, .nil, .nil, .nil, .nil, .nil, .nil, .nil, .nil, (.int .i64 p21), .nil], .box [(.int .i64 p22), (.row 11)], .row .int p23, .row .int p24, .row .int p25, .row .int p26, .row .int p27, .row .int p28, .row .int p29, .row .int p30, .row .int p31] => some (arena_Turn_L16x4 k p0 p1 p2 p3 p4 p5 p6 p7 p8 p9 p10 p11 p12 p13 p14 p15 p16 p17 p18 p19 p20 p21 p22 p23 p24 p25 p26 p27 p28 p29 p30 p31)
  | _, _ => none
set_option maxHeartbeats 0 in
set_option maxRecDepth 5000000 in
def arena_Turn_P16v5 (k : Nat) (vs : List SV) (bs : List Blk) : Option (Option ((List Int × List Int × ((List Int × List Int × List Int × List Int) × (List Int × List Int × List Int × List Int) × List Int × List Int × List Int × List Int) × Int × List Int) × Bool)) := match vs, bs with
  | [.val (.one (.ptr 0 0)), .val (.one (.ptr 1 0)), .val (.one (.ptr 2 0)), .val (.one (.bool p0)), .val (.agg [(.sl .int p1), (.sl .int p2), (.sl .int p3), (.sl .int p4), (.sl .int p5), (.sl .int p6), (.sl .int p7), (.sl .int p8), (.sl .int p9), (.sl .int p10), (.sl .int p11), (.sl .int p12)]), .val (.one (.int .i64 p13))], [.box [(.sl .int p14), (.sl .int p15), (.row 3), (.row 4), (.row 5), (.row 6), (.sl .int p16), (.sl .int p17), (.sl .int p18), (.sl .int p19), (.row 7), (.row 8), (.row 9), (.row 10), (.int .i64 p20), (.row 11)], .box [.nil, .nil, .nil, .nil, .nil, .nil, .nil, .nil, .nil, .nil, .nil, .nil, .nil, .nil, (.int .i64 p21), .nil], .box [(.int .i64 p22), (.row 11)], .row .int p23, .row .int p24, .row .int p25, .row .int p26, .row .int p27, .row .int p28, .row .int p29, .row .int p30, .row .int p31] => some (arena_Turn_L16x5 k p0 p1 p2 p3 p4 p5 p6 p7 p8 p9 p10 p11 p12 p13 p14 p15 p16 p17 p18 p19 p20 p21 p22 p23 p24 p25 p26 p27 p28 p29 p30 p31)
  | _, _ => none
set_option maxHeartbeats 0 in
set_option maxRecDepth 5000000 in
def arena_Turn_P16v6 (k : Nat) (vs : List SV) (bs : List Blk) : Option (Option ((List Int × List Int × ((List Int × List Int × List Int × List Int) × (List Int × List Int × List Int × List Int) × List Int × List Int × List Int × List Int) × Int × List Int) × Bool)) := match vs, bs with
  | [.val (.one (.ptr 0 0)), .val (.one (.ptr 1 0)), .val (.one (.ptr 2 0)), .val (.one (.bool p0)), .val (.agg [(.sl .int p1), (.sl .int p2), (.sl .int p3), (.sl .int p4), (.sl .int p5), (.sl .int p6), (.sl .int p7), (.sl .int p8), (.sl .int p9), (.sl .int p10), (.sl .int p11), (.sl .int p12)]), .val (.one (.int .i64 p13))], [.box [(.sl .int p14), (.sl .int p15), (.row 3), (.row 4), (.row 5), (.row 6), (.row 7), (.row 8), (.row 9), (.row 10), (.sl .int p16), (.sl .int p17), (.sl .int p18), (.sl .int p19), (.int .i64 p20), (.row 11)], .box [.nil, .nil, .nil, .nil, .nil, .nil, .nil, .nil, .nil, .nil, .nil, .nil, .nil, .nil, (.int .i64 p21), .nil], .box [(.int .i64 p22), (.row 11)], .row .int p23, .row .int p24, .row .int p25, .row .int p26, .row .int p27, .row .int p28, .row .int p29, .row .int p30, .row .int p31] => some (arena_Turn_L16x6 k p0 p1 p2 p3 p4 p5 p6 p7 p8 p9 p10 p11 p12 p13 p14 p15 p16 p17 p18 p19 p20 p21 p22 p23 p24 p25 p26 p27 p28 p29 p30 p31)
  | _, _ => none
set_option maxHeartbeats 0 in
set_option maxRecDepth 5000000 in
def arena_Turn_P16v7 (k : Nat) (vs : List SV) (bs : List Blk) : Option (Option ((List Int × List Int × ((List Int × List Int × List Int × List Int) × (List Int × List Int × List Int × List Int) × List Int × List Int × List Int × List Int) × Int × List Int) × Bool)) := match vs, bs with
  | [.val (.one (.ptr 0 0)), .val (.one (.ptr 1 0)), .val (.one (.ptr 2 0)), .val (.one (.bool p0)), .val (.agg [(.sl .int p1), (.sl .int p2), (.sl .int p3), (.sl .int p4), (.sl .int p5), (.sl .int p6), (.sl .int p7), (.sl .int p8), (.sl .int p9), (.sl .int p10), (.sl .int p11), (.sl .int p12)]), .val (.one (.int .i64 p13))], [.box [(.sl .int p14), (.sl .int p15), (.row 3), (.row 4), (.row 5), (.row 6), (.row 7), (.row 8), (.row 9), (.row 10), (.row 11), (.row 12), (.row 13), (.row 14), (.int .i64 p16), (.row 15)], .box [.nil, .nil, .nil, .nil, .nil, .nil, .nil, .nil, .nil, .nil, .nil, .nil, .nil, .nil, (.int .i64 p17), .nil], .box [(.int .i64 p18), (.row 15)], .row .int p19, .row .int p20, .row .int p21, .row .int p22, .row .int p23, .row .int p24, .row .int p25, .row .int p26, .row .int p27, .row .int p28, .row .int p29, .row .int p30, .row .int p31] => some (arena_Turn_L16x7 k p0 p1 p2 p3 p4 p5 p6 p7 p8 p9 p10 p11 p12 p13 p14 p15 p16 p17 p18 p19 p20 p21 p22 p23 p24 p25 p26 p27 p28 p29 p30 p31)
  | _, _ => none
def arena_Turn_P16 (k : Nat) (vs : List SV) (bs : List Blk) : Option ((List Int × List Int × ((List Int × List Int × List Int × List Int) × (List Int × List Int × List Int × List Int) × List Int × List Int × List Int × List Int) × Int × List Int) × Bool) := match arena_Turn_P16v0 k vs bs with | some r => r | none => match arena_Turn_P16v1 k vs bs with | some r => r | none => match arena_Turn_P16v2 k vs bs with | some r => r | none => match arena_Turn_P16v3 k vs bs with | some r => r | none => match arena_Turn_P16v4 k vs bs with | some r => r | none => match arena_Turn_P16v5 k vs bs with | some r => r | none => match arena_Turn_P16v6 k vs bs with | some r => r | none => match arena_Turn_P16v7 k vs bs with | some r => r | none => none
def arena_Turn_Λ (k L : Nat) (vs : List SV) (bs : List Blk) : Option ((List Int × List Int × ((List Int × List Int × List Int × List Int) × (List Int × List Int × List Int × List Int) × List Int × List Int × List Int × List Int) × Int × List Int) × Bool) := match Nat.beq L 16 with | true => arena_Turn_P16 k vs bs | false => none
noncomputable def arena_Turn_C : List (Cut (Tup [⟨true, (.pair (.sl .int) (.pair (.sl .int) (.pair (.pair (.pair (.sl .int) (.pair (.sl .int) (.pair (.sl .int) (.sl .int)))) (.pair (.pair (.sl .int) (.pair (.sl .int) (.pair (.sl .int) (.sl .int)))) (.pair (.sl .int) (.pair (.sl .int) (.pair (.sl .int) (.sl .int)))))) (.pair .int (.sl .int)))))⟩, ⟨false, .bool⟩])) := cuts Try.prog (lkΓ [(17, arena_may_S), (20, era_Turn_S), (21, pool_Reclaim_S), (22, era_Safe_S)]) Try.f8.ntmps [(16, [1, 2, 4, 5, 22, 23])] (bodyOf Try.f8) (κ0 Try.prog Try.f8 false [⟨true, (.pair (.sl .int) (.pair (.sl .int) (.pair (.pair (.pair (.sl .int) (.pair (.sl .int) (.pair (.sl .int) (.sl .int)))) (.pair (.pair (.sl .int) (.pair (.sl .int) (.pair (.sl .int) (.sl .int)))) (.pair (.sl .int) (.pair (.sl .int) (.pair (.sl .int) (.sl .int)))))) (.pair .int (.sl .int)))))⟩, ⟨false, .bool⟩])
set_option maxRecDepth 5000000 in
theorem arena_Turn_c16 (k : Nat) (p0 : Bool) (p1 : List Int) (p2 : List Int) (p3 : List Int) (p4 : List Int) (p5 : List Int) (p6 : List Int) (p7 : List Int) (p8 : List Int) (p9 : List Int) (p10 : List Int) (p11 : List Int) (p12 : List Int) (p13 : Int) (p14 : List Int) (p15 : List Int) (p16 : List Int) (p17 : List Int) (p18 : List Int) (p19 : List Int) (p20 : List Int) (p21 : List Int) (p22 : List Int) (p23 : List Int) (p24 : List Int) (p25 : List Int) (p26 : List Int) (p27 : List Int) (p28 : Int) (p29 : Int) (p30 : Int) (p31 : List Int) : ((nthC arena_Turn_C 0).g (mkSt [1, 2, 4, 5, 22, 23] [.val (.one (.ptr 0 0)), .val (.one (.ptr 1 0)), .val (.one (.ptr 2 0)), .val (.one (.bool p0)), .val (.agg [(.sl .int p1), (.sl .int p2), (.sl .int p3), (.sl .int p4), (.sl .int p5), (.sl .int p6), (.sl .int p7), (.sl .int p8), (.sl .int p9), (.sl .int p10), (.sl .int p11), (.sl .int p12)]), .val (.one (.int .i64 p13))] [.box [(.sl .int p14), (.sl .int p15), (.sl .int p16), (.sl .int p17), (.sl .int p18), (.sl .int p19), (.sl .int p20), (.sl .int p21), (.sl .int p22), (.sl .int p23), (.sl .int p24), (.sl .int p25), (.sl .int p26), (.sl .int p27), (.int .i64 p28), (.row 3)], .box [.nil, .nil, .nil, .nil, .nil, .nil, .nil, .nil, .nil, .nil, .nil, .nil, .nil, .nil, (.int .i64 p29), .nil], .box [(.int .i64 p30), (.row 3)], .row .int p31])).run (arena_Turn_Λ k) = arena_Turn_L16 (k + 1) p0 p1 p2 p3 p4 p5 p6 p7 p8 p9 p10 p11 p12 p13 p14 p15 p16 p17 p18 p19 p20 p21 p22 p23 p24 p25 p26 p27 p28 p29 p30 p31 := by kernel_rfl
set_option maxHeartbeats 0 in
set_option maxRecDepth 5000000 in
theorem arena_Turn_e16 (k : Nat) (vs : List SV) (bs : List Blk) (r : ((List Int) × ((List Int) × ((((List Int) × ((List Int) × ((List Int) × (List Int)))) × (((List Int) × ((List Int) × ((List Int) × (List Int)))) × ((List Int) × ((List Int) × ((List Int) × (List Int)))))) × (Int × (List Int))))) × Bool) (h : arena_Turn_P16v0 (k + 1) vs bs = some (some r)) : ((nthC arena_Turn_C 0).g (mkSt [1, 2, 4, 5, 22, 23] vs bs)).run (arena_Turn_Λ k) = some r := by
  unfold arena_Turn_P16v0 at h
  split at h
  · exact (arena_Turn_c16 k _ _ _ _ _ _ _ _ _ _ _ _ _ _ _ _ _ _ _ _ _ _ _ _ _ _ _ _ _ _ _ _).trans (Option.some.inj h)
  · cases h
set_option maxRecDepth 5000000 in
theorem arena_Turn_c16x1 (k : Nat) (p0 : Bool) (p1 : List Int) (p2 : List Int) (p3 : List Int) (p4 : List Int) (p5 : List Int) (p6 : List Int) (p7 : List Int) (p8 : List Int) (p9 : List Int) (p10 : List Int) (p11 : List Int) (p12 : List Int) (p13 : Int) (p14 : List Int) (p15 : List Int) (p16 : List Int) (p17 : List Int) (p18 : List Int) (p19 : List Int) (p20 : List Int) (p21 : List Int) (p22 : List Int) (p23 : List Int) (p24 : Int) (p25 : Int) (p26 : Int) (p27 : List Int) (p28 : List Int) (p29 : List Int) (p30 : List Int) (p31 : List Int) : ((nthC arena_Turn_C 0).g (mkSt [1, 2, 4, 5, 22, 23] [.val (.one (.ptr 0 0)), .val (.one (.ptr 1 0)), .val (.one (.ptr 2 0)), .val (.one (.bool p0)), .val (.agg [(.sl .int p1), (.sl .int p2), (.sl .int p3), (.sl .int p4), (.sl .int p5), (.sl .int p6), (.sl .int p7), (.sl .int p8), (.sl .int p9), (.sl .int p10), (.sl .int p11), (.sl .int p12)]), .val (.one (.int .i64 p13))] [.box [(.sl .int p14), (.sl .int p15), (.sl .int p16), (.sl .int p17), (.sl .int p18), (.sl .int p19), (.sl .int p20), (.sl .int p21), (.sl .int p22), (.sl .int p23), (.row 3), (.row 4), (.row 5), (.row 6), (.int .i64 p24), (.row 7)], .box [.nil, .nil, .nil, .nil, .nil, .nil, .nil, .nil, .nil, .nil, .nil, .nil, .nil, .nil, (.int .i64 p25), .nil], .box [(.int .i64 p26), (.row 7)], .row .int p27, .row .int p28, .row .int p29, .row .int p30, .row .int p31])).run (arena_Turn_Λ k) = arena_Turn_L16x1 (k + 1) p0 p1 p2 p3 p4 p5 p6 p7 p8 p9 p10 p11 p12 p13 p14 p15 p16 p17 p18 p19 p20 p21 p22 p23 p24 p25 p26 p27 p28 p29 p30 p31 := by kernel_rfl
set_option maxHeartbeats 0 in
set_option maxRecDepth 5000000 in
theorem arena_Turn_e16x1 (k : Nat) (vs : List SV) (bs : List Blk) (r : ((List Int) × ((List Int) × ((((List Int) × ((List Int) × ((List Int) × (List Int)))) × (((List Int) × ((List Int) × ((List Int) × (List Int)))) × ((List Int) × ((List Int) × ((List Int) × (List Int)))))) × (Int × (List Int))))) × Bool) (h : arena_Turn_P16v1 (k + 1) vs bs = some (some r)) : ((nthC arena_Turn_C 0).g (mkSt [1, 2, 4, 5, 22, 23] vs bs)).run (arena_Turn_Λ k) = some r := by
  unfold arena_Turn_P16v1 at h
  split at h
  · exact (arena_Turn_c16x1 k _ _ _ _ _ _ _ _ _ _ _ _ _ _ _ _ _ _ _ _ _ _ _ _ _ _ _ _ _ _ _ _).trans (Option.some.inj h)
  · cases h
set_option maxRecDepth 5000000 in
theorem arena_Turn_c16x2 (k : Nat) (p0 : Bool) (p1 : List Int) (p2 : List Int) (p3 : List Int) (p4 : List Int) (p5 : List Int) (p6 : List Int) (p7 : List Int) (p8 : List Int) (p9 : List Int) (p10 : List Int) (p11 : List Int) (p12 : List Int) (p13 : Int) (p14 : List Int) (p15 : List Int) (p16 : List Int) (p17 : List Int) (p18 : List Int) (p19 : List Int) (p20 : List Int) (p21 : List Int) (p22 : List Int) (p23 : List Int) (p24 : Int) (p25 : Int) (p26 : Int) (p27 : List Int) (p28 : List Int) (p29 : List Int) (p30 : List Int) (p31 : List Int) : ((nthC arena_Turn_C 0).g (mkSt [1, 2, 4, 5, 22, 23] [.val (.one (.ptr 0 0)), .val (.one (.ptr 1 0)), .val (.one (.ptr 2 0)), .val (.one (.bool p0)), .val (.agg [(.sl .int p1), (.sl .int p2), (.sl .int p3), (.sl .int p4), (.sl .int p5), (.sl .int p6), (.sl .int p7), (.sl .int p8), (.sl .int p9), (.sl .int p10), (.sl .int p11), (.sl .int p12)]), .val (.one (.int .i64 p13))] [.box [(.sl .int p14), (.sl .int p15), (.sl .int p16), (.sl .int p17), (.sl .int p18), (.sl .int p19), (.row 3), (.row 4), (.row 5), (.row 6), (.sl .int p20), (.sl .int p21), (.sl .int p22), (.sl .int p23), (.int .i64 p24), (.row 7)], .box [.nil, .nil, .nil, .nil, .nil, .nil, .nil, .nil, .nil, .nil, .nil, .nil, .nil, .nil, (.int .i64 p25), .nil], .box [(.int .i64 p26), (.row 7)], .row .int p27, .row .int p28, .row .int p29, .row .int p30, .row .int p31])).run (arena_Turn_Λ k) = arena_Turn_L16x2 (k + 1) p0 p1 p2 p3 p4 p5 p6 p7 p8 p9 p10 p11 p12 p13 p14 p15 p16 p17 p18 p19 p20 p21 p22 p23 p24 p25 p26 p27 p28 p29 p30 p31 := by kernel_rfl
set_option maxHeartbeats 0 in
set_option maxRecDepth 5000000 in
theorem arena_Turn_e16x2 (k : Nat) (vs : List SV) (bs : List Blk) (r : ((List Int) × ((List Int) × ((((List Int) × ((List Int) × ((List Int) × (List Int)))) × (((List Int) × ((List Int) × ((List Int) × (List Int)))) × ((List Int) × ((List Int) × ((List Int) × (List Int)))))) × (Int × (List Int))))) × Bool) (h : arena_Turn_P16v2 (k + 1) vs bs = some (some r)) : ((nthC arena_Turn_C 0).g (mkSt [1, 2, 4, 5, 22, 23] vs bs)).run (arena_Turn_Λ k) = some r := by
  unfold arena_Turn_P16v2 at h
  split at h
  · exact (arena_Turn_c16x2 k _ _ _ _ _ _ _ _ _ _ _ _ _ _ _ _ _ _ _ _ _ _ _ _ _ _ _ _ _ _ _ _).trans (Option.some.inj h)
  · cases h
set_option maxRecDepth 5000000 in
theorem arena_Turn_c16x3 (k : Nat) (p0 : Bool) (p1 : List Int) (p2 : List Int) (p3 : List Int) (p4 : List Int) (p5 : List Int) (p6 : List Int) (p7 : List Int) (p8 : List Int) (p9 : List Int) (p10 : List Int) (p11 : List Int) (p12 : List Int) (p13 : Int) (p14 : List Int) (p15 : List Int) (p16 : List Int) (p17 : List Int) (p18 : List Int) (p19 : List Int) (p20 : List Int) (p21 : List Int) (p22 : List Int) (p23 : List Int) (p24 : Int) (p25 : Int) (p26 : Int) (p27 : List Int) (p28 : List Int) (p29 : List Int) (p30 : List Int) (p31 : List Int) : ((nthC arena_Turn_C 0).g (mkSt [1, 2, 4, 5, 22, 23] [.val (.one (.ptr 0 0)), .val (.one (.ptr 1 0)), .val (.one (.ptr 2 0)), .val (.one (.bool p0)), .val (.agg [(.sl .int p1), (.sl .int p2), (.sl .int p3), (.sl .int p4), (.sl .int p5), (.sl .int p6), (.sl .int p7), (.sl .int p8), (.sl .int p9), (.sl .int p10), (.sl .int p11), (.sl .int p12)]), .val (.one (.int .i64 p13))] [.box [(.sl .int p14), (.sl .int p15), (.row 3), (.row 4), (.row 5), (.row 6), (.sl .int p16), (.sl .int p17), (.sl .int p18), (.sl .int p19), (.sl .int p20), (.sl .int p21), (.sl .int p22), (.sl .int p23), (.int .i64 p24), (.row 7)], .box [.nil, .nil, .nil, .nil, .nil, .nil, .nil, .nil, .nil, .nil, .nil, .nil, .nil, .nil, (.int .i64 p25), .nil], .box [(.int .i64 p26), (.row 7)], .row .int p27, .row .int p28, .row .int p29, .row .int p30, .row .int p31])).run (arena_Turn_Λ k) = arena_Turn_L16x3 (k + 1) p0 p1 p2 p3 p4 p5 p6 p7 p8 p9 p10 p11 p12 p13 p14 p15 p16 p17 p18 p19 p20 p21 p22 p23 p24 p25 p26 p27 p28 p29 p30 p31 := by kernel_rfl
set_option maxHeartbeats 0 in
set_option maxRecDepth 5000000 in
theorem arena_Turn_e16x3 (k : Nat) (vs : List SV) (bs : List Blk) (r : ((List Int) × ((List Int) × ((((List Int) × ((List Int) × ((List Int) × (List Int)))) × (((List Int) × ((List Int) × ((List Int) × (List Int)))) × ((List Int) × ((List Int) × ((List Int) × (List Int)))))) × (Int × (List Int))))) × Bool) (h : arena_Turn_P16v3 (k + 1) vs bs = some (some r)) : ((nthC arena_Turn_C 0).g (mkSt [1, 2, 4, 5, 22, 23] vs bs)).run (arena_Turn_Λ k) = some r := by
  unfold arena_Turn_P16v3 at h
  split at h
  · exact (arena_Turn_c16x3 k _ _ _ _ _ _ _ _ _ _ _ _ _ _ _ _ _ _ _ _ _ _ _ _ _ _ _ _ _ _ _ _).trans (Option.some.inj h)
  · cases h
set_option maxRecDepth 5000000 in
theorem arena_Turn_c16x4 (k : Nat) (p0 : Bool) (p1 : List Int) (p2 : List Int) (p3 : List Int) (p4 : List Int) (p5 : List Int) (p6 : List Int) (p7 : List Int) (p8 : List Int) (p9 : List Int) (p10 : List Int) (p11 : List Int) (p12 : List Int) (p13 : Int) (p14 : List Int) (p15 : List Int) (p16 : List Int) (p17 : List Int) (p18 : List Int) (p19 : List Int) (p20 : Int) (p21 : Int) (p22 : Int) (p23 : List Int) (p24 : List Int) (p25 : List Int) (p26 : List Int) (p27 : List Int) (p28 : List Int) (p29 : List Int) (p30 : List Int) (p31 : List Int) : ((nthC arena_Turn_C 0).g (mkSt [1, 2, 4, 5, 22, 23] [.val (.one (.ptr 0 0)), .val (.one (.ptr 1 0)), .val (.one (.ptr 2 0)), .val (.one (.bool p0)), .val (.agg [(.sl .int p1), (.sl .int p2), (.sl .int p3), (.sl .int p4), (.sl .int p5), (.sl .int p6), (.sl .int p7), (.sl .int p8), (.sl .int p9), (.sl .int p10), (.sl .int p11), (.sl .int p12)]), .val (.one (.int .i64 p13))] [.box [(.sl .int p14), (.sl .int p15), (.sl .int p16), (.sl .int p17), (.sl .int p18), (.sl .int p19), (.row 3), (.row 4), (.row 5), (.row 6), (.row 7), (.row 8), (.row 9), (.row 10), (.int .i64 p20), (.row 11)], .box [.nil, .nil, .nil, .nil, .nil, .nil, .nil, .nil, .nil, .nil, .nil, .nil, .nil, .nil, (.int .i64 p21), .nil], .box [(.int .i64 p22), (.row 11)], .row .int p23, .row .int p24, .row .int p25, .row .int p26, .row .int p27, .row .int p28, .row .int p29, .row .int p30, .row .int p31])).run (arena_Turn_Λ k) = arena_Turn_L16x4 (k + 1) p0 p1 p2 p3 p4 p5 p6 p7 p8 p9 p10 p11 p12 p13 p14 p15 p16 p17 p18 p19 p20 p21 p22 p23 p24 p25 p26 p27 p28 p29 p30 p31 := by kernel_rfl
set_option maxHeartbeats 0 in
set_option maxRecDepth 5000000 in
theorem arena_Turn_e16x4 (k : Nat) (vs : List SV) (bs : List Blk) (r : ((List Int) × ((List Int) × ((((List Int) × ((List Int) × ((List Int) × (List Int)))) × (((List Int) × ((List Int) × ((List Int) × (List Int)))) × ((List Int) × ((List Int) × ((List Int) × (List Int)))))) × (Int × (List Int))))) × Bool) (h : arena_Turn_P16v4 (k + 1) vs bs = some (some r)) : ((nthC arena_Turn_C 0).g (mkSt [1, 2, 4, 5, 22, 23] vs bs)).run (arena_Turn_Λ k) = some r := by
  unfold arena_Turn_P16v4 at h
  split at h
  · exact (arena_Turn_c16x4 k _ _ _ _ _ _ _ _ _ _ _ _ _ _ _ _ _ _ _ _ _ _ _ _ _ _ _ _ _ _ _ _).trans (Option.some.inj h)
  · cases h
set_option maxRecDepth 5000000 in
theorem arena_Turn_c16x5 (k : Nat) (p0 : Bool) (p1 : List Int) (p2 : List Int) (p3 : List Int) (p4 : List Int) (p5 : List Int) (p6 : List Int) (p7 : List Int) (p8 : List Int) (p9 : List Int) (p10 : List Int) (p11 : List Int) (p12 : List Int) (p13 : Int) (p14 : List Int) (p15 : List Int) (p16 : List Int) (p17 : List Int) (p18 : List Int) (p19 : List Int) (p20 : Int) (p21 : Int) (p22 : Int) (p23 : List Int) (p24 : List Int) (p25 : List Int) (p26 : List Int) (p27 : List Int) (p28 : List Int) (p29 : List Int) (p30 : List Int) (p31 : List Int) : ((nthC arena_Turn_C 0).g (mkSt [1, 2, 4, 5, 22, 23] [.val (.one (.ptr 0 0)), .val (.one (.ptr 1 0)), .val (.one (.ptr 2 0)), .val (.one (.bool p0)), .val (.agg [(.sl .int p1), (.sl .int p2), (.sl .int p3), (.sl .int p4), (.sl .int p5), (.sl .int p6), (.sl .int p7), (.sl .int p8), (.sl .int p9), (.sl .int p10), (.sl .int p11), (.sl .int p12)]), .val (.one (.int .i64 p13))] [.box [(.sl .int p14), (.sl .int p15), (.row 3), (.row 4), (.row 5), (.row 6), (.sl .int p16), (.sl .int p17), (.sl .int p18), (.sl .int p19), (.row 7), (.row 8), (.row 9), (.row 10), (.int .i64 p20), (.row 11)], .box [.nil, .nil, .nil, .nil, .nil, .nil, .nil, .nil, .nil, .nil, .nil, .nil, .nil, .nil, (.int .i64 p21), .nil], .box [(.int .i64 p22), (.row 11)], .row .int p23, .row .int p24, .row .int p25, .row .int p26, .row .int p27, .row .int p28, .row .int p29, .row .int p30, .row .int p31])).run (arena_Turn_Λ k) = arena_Turn_L16x5 (k + 1) p0 p1 p2 p3 p4 p5 p6 p7 p8 p9 p10 p11 p12 p13 p14 p15 p16 p17 p18 p19 p20 p21 p22 p23 p24 p25 p26 p27 p28 p29 p30 p31 := by kernel_rfl
set_option maxHeartbeats 0 in
set_option maxRecDepth 5000000 in
theorem arena_Turn_e16x5 (k : Nat) (vs : List SV) (bs : List Blk) (r : ((List Int) × ((List Int) × ((((List Int) × ((List Int) × ((List Int) × (List Int)))) × (((List Int) × ((List Int) × ((List Int) × (List Int)))) × ((List Int) × ((List Int) × ((List Int) × (List Int)))))) × (Int × (List Int))))) × Bool) (h : arena_Turn_P16v5 (k + 1) vs bs = some (some r)) : ((nthC arena_Turn_C 0).g (mkSt [1, 2, 4, 5, 22, 23] vs bs)).run (arena_Turn_Λ k) = some r := by
  unfold arena_Turn_P16v5 at h
  split at h
  · exact (arena_Turn_c16x5 k _ _ _ _ _ _ _ _ _ _ _ _ _ _ _ _ _ _ _ _ _ _ _ _ _ _ _ _ _ _ _ _).trans (Option.some.inj h)
  · cases h
set_option maxRecDepth 5000000 in
theorem arena_Turn_c16x6 (k : Nat) (p0 : Bool) (p1 : List Int) (p2 : List Int) (p3 : List Int) (p4 : List Int) (p5 : List Int) (p6 : List Int) (p7 : List Int) (p8 : List Int) (p9 : List Int) (p10 : List Int) (p11 : List Int) (p12 : List Int) (p13 : Int) (p14 : List Int) (p15 : List Int) (p16 : List Int) (p17 : List Int) (p18 : List Int) (p19 : List Int) (p20 : Int) (p21 : Int) (p22 : Int) (p23 : List Int) (p24 : List Int) (p25 : List Int) (p26 : List Int) (p27 : List Int) (p28 : List Int) (p29 : List Int) (p30 : List Int) (p31 : List Int) : ((nthC arena_Turn_C 0).g (mkSt [1, 2, 4, 5, 22, 23] [.val (.one (.ptr 0 0)), .val (.one (.ptr 1 0)), .val (.one (.ptr 2 0)), .val (.one (.bool p0)), .val (.agg [(.sl .int p1), (.sl .int p2), (.sl .int p3), (.sl .int p4), (.sl .int p5), (.sl .int p6), (.sl .int p7), (.sl .int p8), (.sl .int p9), (.sl .int p10), (.sl .int p11), (.sl .int p12)]), .val (.one (.int .i64 p13))] [.box [(.sl .int p14), (.sl .int p15), (.row 3), (.row 4), (.row 5), (.row 6), (.row 7), (.row 8), (.row 9), (.row 10), (.sl .int p16), (.sl .int p17), (.sl .int p18), (.sl .int p19), (.int .i64 p20), (.row 11)], .box [.nil, .nil, .nil, .nil, .nil, .nil, .nil, .nil, .nil, .nil, .nil, .nil, .nil, .nil, (.int .i64 p21), .nil], .box [(.int .i64 p22), (.row 11)], .row .int p23, .row .int p24, .row .int p25, .row .int p26, .row .int p27, .row .int p28, .row .int p29, .row .int p30, .row .int p31])).run (arena_Turn_Λ k) = arena_Turn_L16x6 (k + 1) p0 p1 p2 p3 p4 p5 p6 p7 p8 p9 p10 p11 p12 p13 p14 p15 p16 p17 p18 p19 p20 p21 p22 p23 p24 p25 p26 p27 p28 p29 p30 p31 := by kernel_rfl
set_option maxHeartbeats 0 in
set_option maxRecDepth 5000000 in
theorem arena_Turn_e16x6 (k : Nat) (vs : List SV) (bs : List Blk) (r : ((List Int) × ((List Int) × ((((List Int) × ((List Int) × ((List Int) × (List Int)))) × (((List Int) × ((List Int) × ((List Int) × (List Int)))) × ((List Int) × ((List Int) × ((List Int) × (List Int)))))) × (Int × (List Int))))) × Bool) (h : arena_Turn_P16v6 (k + 1) vs bs = some (some r)) : ((nthC arena_Turn_C 0).g (mkSt [1, 2, 4, 5, 22, 23] vs bs)).run (arena_Turn_Λ k) = some r := by
  unfold arena_Turn_P16v6 at h
  split at h
  · exact (arena_Turn_c16x6 k _ _ _ _ _ _ _ _ _ _ _ _ _ _ _ _ _ _ _ _ _ _ _ _ _ _ _ _ _ _ _ _).trans (Option.some.inj h)
  · cases h
set_option maxRecDepth 5000000 in
theorem arena_Turn_c16x7 (k : Nat) (p0 : Bool) (p1 : List Int) (p2 : List Int) (p3 : List Int) (p4 : List Int) (p5 : List Int) (p6 : List Int) (p7 : List Int) (p8 : List Int) (p9 : List Int) (p10 : List Int) (p11 : List Int) (p12 : List Int) (p13 : Int) (p14 : List Int) (p15 : List Int) (p16 : Int) (p17 : Int) (p18 : Int) (p19 : List Int) (p20 : List Int) (p21 : List Int) (p22 : List Int) (p23 : List Int) (p24 : List Int) (p25 : List Int) (p26 : List Int) (p27 : List Int) (p28 : List Int) (p29 : List Int) (p30 : List Int) (p31 : List Int) : ((nthC arena_Turn_C 0).g (mkSt [1, 2, 4, 5, 22, 23] [.val (.one (.ptr 0 0)), .val (.one (.ptr 1 0)), .val (.one (.ptr 2 0)), .val (.one (.bool p0)), .val (.agg [(.sl .int p1), (.sl .int p2), (.sl .int p3), (.sl .int p4), (.sl .int p5), (.sl .int p6), (.sl .int p7), (.sl .int p8), (.sl .int p9), (.sl .int p10), (.sl .int p11), (.sl .int p12)]), .val (.one (.int .i64 p13))] [.box [(.sl .int p14), (.sl .int p15), (.row 3), (.row 4), (.row 5), (.row 6), (.row 7), (.row 8), (.row 9), (.row 10), (.row 11), (.row 12), (.row 13), (.row 14), (.int .i64 p16), (.row 15)], .box [.nil, .nil, .nil, .nil, .nil, .nil, .nil, .nil, .nil, .nil, .nil, .nil, .nil, .nil, (.int .i64 p17), .nil], .box [(.int .i64 p18), (.row 15)], .row .int p19, .row .int p20, .row .int p21, .row .int p22, .row .int p23, .row .int p24, .row .int p25, .row .int p26, .row .int p27, .row .int p28, .row .int p29, .row .int p30, .row .int p31])).run (arena_Turn_Λ k) = arena_Turn_L16x7 (k + 1) p0 p1 p2 p3 p4 p5 p6 p7 p8 p9 p10 p11 p12 p13 p14 p15 p16 p17 p18 p19 p20 p21 p22 p23 p24 p25 p26 p27 p28 p29 p30 p31 := by kernel_rfl
set_option maxHeartbeats 0 in
set_option maxRecDepth 5000000 in
theorem arena_Turn_e16x7 (k : Nat) (vs : List SV) (bs : List Blk) (r : ((List Int) × ((List Int) × ((((List Int) × ((List Int) × ((List Int) × (List Int)))) × (((List Int) × ((List Int) × ((List Int) × (List Int)))) × ((List Int) × ((List Int) × ((List Int) × (List Int)))))) × (Int × (List Int))))) × Bool) (h : arena_Turn_P16v7 (k + 1) vs bs = some (some r)) : ((nthC arena_Turn_C 0).g (mkSt [1, 2, 4, 5, 22, 23] vs bs)).run (arena_Turn_Λ k) = some r := by
  unfold arena_Turn_P16v7 at h
  split at h
  · exact (arena_Turn_c16x7 k _ _ _ _ _ _ _ _ _ _ _ _ _ _ _ _ _ _ _ _ _ _ _ _ _ _ _ _ _ _ _ _).trans (Option.some.inj h)
  · cases h
theorem arena_Turn_d16 : CutOk arena_Turn_Λ (nthC arena_Turn_C 0) := by
  refine cutOk_of (L := 16) (live := [1, 2, 4, 5, 22, 23]) (by kernel_rfl) (by kernel_rfl) fun k vs bs r h => ?_
  change arena_Turn_P16 (k + 1) vs bs = some r at h
  unfold arena_Turn_P16 at h
  split at h
  · rename_i q hq
    exact arena_Turn_e16 k vs bs r (hq.trans (congrArg some h))
  split at h
  · rename_i q hq
    exact arena_Turn_e16x1 k vs bs r (hq.trans (congrArg some h))
  split at h
  · rename_i q hq
    exact arena_Turn_e16x2 k vs bs r (hq.trans (congrArg some h))
  split at h
  · rename_i q hq
    exact arena_Turn_e16x3 k vs bs r (hq.trans (congrArg some h))
  split at h
  · rename_i q hq
    exact arena_Turn_e16x4 k vs bs r (hq.trans (congrArg some h))
  split at h
  · rename_i q hq
    exact arena_Turn_e16x5 k vs bs r (hq.trans (congrArg some h))
  split at h
  · rename_i q hq
    exact arena_Turn_e16x6 k vs bs r (hq.trans (congrArg some h))
  split at h
  · rename_i q hq
    exact arena_Turn_e16x7 k vs bs r (hq.trans (congrArg some h))
  cases h
theorem arena_Turn_cuts : ∀ p ∈ cuts Try.prog (lkΓ [(17, arena_may_S), (20, era_Turn_S), (21, pool_Reclaim_S), (22, era_Safe_S)]) Try.f8.ntmps [(16, [1, 2, 4, 5, 22, 23])] (bodyOf Try.f8) (κ0 Try.prog Try.f8 false [⟨true, (.pair (.sl .int) (.pair (.sl .int) (.pair (.pair (.pair (.sl .int) (.pair (.sl .int) (.pair (.sl .int) (.sl .int)))) (.pair (.pair (.sl .int) (.pair (.sl .int) (.pair (.sl .int) (.sl .int)))) (.pair (.sl .int) (.pair (.sl .int) (.pair (.sl .int) (.sl .int)))))) (.pair .int (.sl .int)))))⟩, ⟨false, .bool⟩]), CutOk arena_Turn_Λ p := cutsOk (l := arena_Turn_C) (n := 1) (by kernel_rfl) fun
  | 0, _ => arena_Turn_d16
  | k + 1, h => absurd h (by omega)
set_option maxHeartbeats 0 in
set_option maxRecDepth 5000000 in
theorem arena_Turn_z16 (vs : List SV) (bs : List Blk) (q : Option (((List Int) × ((List Int) × ((((List Int) × ((List Int) × ((List Int) × (List Int)))) × (((List Int) × ((List Int) × ((List Int) × (List Int)))) × ((List Int) × ((List Int) × ((List Int) × (List Int)))))) × (Int × (List Int))))) × Bool)) (h : arena_Turn_P16v0 0 vs bs = some q) : q = none := by
  unfold arena_Turn_P16v0 at h; split at h
  · have h := Option.some.inj h; rw [← h]; first | rfl | (unfold arena_Turn_L16; rfl)
  · cases h
set_option maxHeartbeats 0 in
set_option maxRecDepth 5000000 in
theorem arena_Turn_z16x1 (vs : List SV) (bs : List Blk) (q : Option (((List Int) × ((List Int) × ((((List Int) × ((List Int) × ((List Int) × (List Int)))) × (((List Int) × ((List Int) × ((List Int) × (List Int)))) × ((List Int) × ((List Int) × ((List Int) × (List Int)))))) × (Int × (List Int))))) × Bool)) (h : arena_Turn_P16v1 0 vs bs = some q) : q = none := by
  unfold arena_Turn_P16v1 at h; split at h
  · have h := Option.some.inj h; rw [← h]; first | rfl | (unfold arena_Turn_L16x1; rfl)
  · cases h
set_option maxHeartbeats 0 in
set_option maxRecDepth 5000000 in
theorem arena_Turn_z16x2 (vs : List SV) (bs : List Blk) (q : Option (((List Int) × ((List Int) × ((((List Int) × ((List Int) × ((List Int) × (List Int)))) × (((List Int) × ((List Int) × ((List Int) × (List Int)))) × ((List Int) × ((List Int) × ((List Int) × (List Int)))))) × (Int × (List Int))))) × Bool)) (h : arena_Turn_P16v2 0 vs bs = some q) : q = none := by
  unfold arena_Turn_P16v2 at h; split at h
  · have h := Option.some.inj h; rw [← h]; first | rfl | (unfold arena_Turn_L16x2; rfl)
  · cases h
set_option maxHeartbeats 0 in
set_option maxRecDepth 5000000 in
theorem arena_Turn_z16x3 (vs : List SV) (bs : List Blk) (q : Option (((List Int) × ((List Int) × ((((List Int) × ((List Int) × ((List Int) × (List Int)))) × (((List Int) × ((List Int) × ((List Int) × (List Int)))) × ((List Int) × ((List Int) × ((List Int) × (List Int)))))) × (Int × (List Int))))) × Bool)) (h : arena_Turn_P16v3 0 vs bs = some q) : q = none := by
  unfold arena_Turn_P16v3 at h; split at h
  · have h := Option.some.inj h; rw [← h]; first | rfl | (unfold arena_Turn_L16x3; rfl)
  · cases h
set_option maxHeartbeats 0 in
set_option maxRecDepth 5000000 in
theorem arena_Turn_z16x4 (vs : List SV) (bs : List Blk) (q : Option (((List Int) × ((List Int) × ((((List Int) × ((List Int) × ((List Int) × (List Int)))) × (((List Int) × ((List Int) × ((List Int) × (List Int)))) × ((List Int) × ((List Int) × ((List Int) × (List Int)))))) × (Int × (List Int))))) × Bool)) (h : arena_Turn_P16v4 0 vs bs = some q) : q = none := by
  unfold arena_Turn_P16v4 at h; split at h
  · have h := Option.some.inj h; rw [← h]; first | rfl | (unfold arena_Turn_L16x4; rfl)
  · cases h
set_option maxHeartbeats 0 in
set_option maxRecDepth 5000000 in
theorem arena_Turn_z16x5 (vs : List SV) (bs : List Blk) (q : Option (((List Int) × ((List Int) × ((((List Int) × ((List Int) × ((List Int) × (List Int)))) × (((List Int) × ((List Int) × ((List Int) × (List Int)))) × ((List Int) × ((List Int) × ((List Int) × (List Int)))))) × (Int × (List Int))))) × Bool)) (h : arena_Turn_P16v5 0 vs bs = some q) : q = none := by
  unfold arena_Turn_P16v5 at h; split at h
  · have h := Option.some.inj h; rw [← h]; first | rfl | (unfold arena_Turn_L16x5; rfl)
  · cases h
set_option maxHeartbeats 0 in
set_option maxRecDepth 5000000 in
theorem arena_Turn_z16x6 (vs : List SV) (bs : List Blk) (q : Option (((List Int) × ((List Int) × ((((List Int) × ((List Int) × ((List Int) × (List Int)))) × (((List Int) × ((List Int) × ((List Int) × (List Int)))) × ((List Int) × ((List Int) × ((List Int) × (List Int)))))) × (Int × (List Int))))) × Bool)) (h : arena_Turn_P16v6 0 vs bs = some q) : q = none := by
  unfold arena_Turn_P16v6 at h; split at h
  · have h := Option.some.inj h; rw [← h]; first | rfl | (unfold arena_Turn_L16x6; rfl)
  · cases h
set_option maxHeartbeats 0 in
set_option maxRecDepth 5000000 in
theorem arena_Turn_z16x7 (vs : List SV) (bs : List Blk) (q : Option (((List Int) × ((List Int) × ((((List Int) × ((List Int) × ((List Int) × (List Int)))) × (((List Int) × ((List Int) × ((List Int) × (List Int)))) × ((List Int) × ((List Int) × ((List Int) × (List Int)))))) × (Int × (List Int))))) × Bool)) (h : arena_Turn_P16v7 0 vs bs = some q) : q = none := by
  unfold arena_Turn_P16v7 at h; split at h
  · have h := Option.some.inj h; rw [← h]; first | rfl | (unfold arena_Turn_L16x7; rfl)
  · cases h
theorem arena_Turn_Λ0 (L : Nat) (vs : List SV) (bs : List Blk) : arena_Turn_Λ 0 L vs bs = none := by
  unfold arena_Turn_Λ
  split
  · unfold arena_Turn_P16
    split
    · rename_i q hq; exact arena_Turn_z16 _ _ q hq
    split
    · rename_i q hq; exact arena_Turn_z16x1 _ _ q hq
    split
    · rename_i q hq; exact arena_Turn_z16x2 _ _ q hq
    split
    · rename_i q hq; exact arena_Turn_z16x3 _ _ q hq
    split
    · rename_i q hq; exact arena_Turn_z16x4 _ _ q hq
    split
    · rename_i q hq; exact arena_Turn_z16x5 _ _ q hq
    split
    · rename_i q hq; exact arena_Turn_z16x6 _ _ q hq
    split
    · rename_i q hq; exact arena_Turn_z16x7 _ _ q hq
    rfl
  rfl
set_option maxRecDepth 5000000 in
theorem arena_Turn_run (K : Nat) (x : Tup [⟨true, (.pair (.sl .int) (.pair (.sl .int) (.pair (.pair (.pair (.sl .int) (.pair (.sl .int) (.pair (.sl .int) (.sl .int)))) (.pair (.pair (.sl .int) (.pair (.sl .int) (.pair (.sl .int) (.sl .int)))) (.pair (.sl .int) (.pair (.sl .int) (.pair (.sl .int) (.sl .int)))))) (.pair .int (.sl .int)))))⟩]) : (pxFn Try.prog (lkΓ [(17, arena_may_S), (20, era_Turn_S), (21, pool_Reclaim_S), (22, era_Safe_S)]) [(16, [1, 2, 4, 5, 22, 23])] Try.f8 (bodyOf Try.f8) false [⟨true, (.pair (.sl .int) (.pair (.sl .int) (.pair (.pair (.pair (.sl .int) (.pair (.sl .int) (.pair (.sl .int) (.sl .int)))) (.pair (.pair (.sl .int) (.pair (.sl .int) (.pair (.sl .int) (.sl .int)))) (.pair (.sl .int) (.pair (.sl .int) (.pair (.sl .int) (.sl .int)))))) (.pair .int (.sl .int)))))⟩, ⟨false, .bool⟩] (encTup [⟨true, (.pair (.sl .int) (.pair (.sl .int) (.pair (.pair (.pair (.sl .int) (.pair (.sl .int) (.pair (.sl .int) (.sl .int)))) (.pair (.pair (.sl .int) (.pair (.sl .int) (.pair (.sl .int) (.sl .int)))) (.pair (.sl .int) (.pair (.sl .int) (.pair (.sl .int) (.sl .int)))))) (.pair .int (.sl .int)))))⟩] x)).run (arena_Turn_Λ K) = arena_Turn_K K x := by kernel_rfl
set_option maxRecDepth 5000000 in
theorem arena_may_run (x : Tup [⟨true, (.pair (.sl .int) (.pair (.sl .int) (.pair (.pair (.pair (.sl .int) (.pair (.sl .int) (.pair (.sl .int) (.sl .int)))) (.pair (.pair (.sl .int) (.pair (.sl .int) (.pair (.sl .int) (.sl .int)))) (.pair (.sl .int) (.pair (.sl .int) (.pair (.sl .int) (.sl .int)))))) (.pair .int (.sl .int)))))⟩, ⟨false, .int⟩]) : (pxFn Try.prog (lkΓ [(12, arena_Check_S)]) [] Try.f17 (bodyOf Try.f17) false [⟨false, .bool⟩] (encTup [⟨true, (.pair (.sl .int) (.pair (.sl .int) (.pair (.pair (.pair (.sl .int) (.pair (.sl .int) (.pair (.sl .int) (.sl .int)))) (.pair (.pair (.sl .int) (.pair (.sl .int) (.pair (.sl .int) (.sl .int)))) (.pair (.sl .int) (.pair (.sl .int) (.pair (.sl .int) (.sl .int)))))) (.pair .int (.sl .int)))))⟩, ⟨false, .int⟩] x)).run (fun _ _ _ => none) = arena_may x := by kernel_rfl
theorem arena_may_cuts : ∀ p ∈ cuts Try.prog (lkΓ [(12, arena_Check_S)]) Try.f17.ntmps [] (bodyOf Try.f17) (κ0 Try.prog Try.f17 false [⟨false, .bool⟩]), CutOk (fun _ _ _ _ => none) p := cutsNil (by kernel_rfl)
set_option maxRecDepth 5000000 in
theorem pool_own_run (x : Tup [⟨true, (.pair (.sl .int) (.pair (.sl .int) (.pair (.sl .int) (.sl .int))))⟩]) : (pxFn Try.prog (lkΓ [(30, slices_Clone_S)]) [] Try.f33 (bodyOf Try.f33) true [⟨true, (.pair (.sl .int) (.pair (.sl .int) (.pair (.sl .int) (.sl .int))))⟩] (encTup [⟨true, (.pair (.sl .int) (.pair (.sl .int) (.pair (.sl .int) (.sl .int))))⟩] x)).run (fun _ _ _ => none) = pool_own x := by kernel_rfl
theorem pool_own_cuts : ∀ p ∈ cuts Try.prog (lkΓ [(30, slices_Clone_S)]) Try.f33.ntmps [] (bodyOf Try.f33) (κ0 Try.prog Try.f33 true [⟨true, (.pair (.sl .int) (.pair (.sl .int) (.pair (.sl .int) (.sl .int))))⟩]), CutOk (fun _ _ _ _ => none) p := cutsNil (by kernel_rfl)
set_option maxRecDepth 5000000 in
theorem math_bits_Mul_run (x : Tup [⟨false, (.num .u64)⟩, ⟨false, (.num .u64)⟩]) : (pxFn Try.prog (lkΓ [(40, math_bits_Mul32_S), (41, math_bits_Mul64_S)]) [] Try.f37 (bodyOf Try.f37) false [⟨false, (.num .u64)⟩, ⟨false, (.num .u64)⟩] (encTup [⟨false, (.num .u64)⟩, ⟨false, (.num .u64)⟩] x)).run (fun _ _ _ => none) = math_bits_Mul x := by kernel_rfl
theorem math_bits_Mul_cuts : ∀ p ∈ cuts Try.prog (lkΓ [(40, math_bits_Mul32_S), (41, math_bits_Mul64_S)]) Try.f37.ntmps [] (bodyOf Try.f37) (κ0 Try.prog Try.f37 false [⟨false, (.num .u64)⟩, ⟨false, (.num .u64)⟩]), CutOk (fun _ _ _ _ => none) p := cutsNil (by kernel_rfl)
set_option maxRecDepth 5000000 in
theorem era_with_run (x : Tup [⟨true, (.pair .int (.sl .int))⟩, ⟨false, .int⟩, ⟨false, .int⟩]) : (pxFn Try.prog (lkΓ [(30, slices_Clone_S)]) [] Try.f29 (bodyOf Try.f29) true [⟨true, (.pair .int (.sl .int))⟩] (encTup [⟨true, (.pair .int (.sl .int))⟩, ⟨false, .int⟩, ⟨false, .int⟩] x)).run (fun _ _ _ => none) = era_with x := by kernel_rfl
theorem era_with_cuts : ∀ p ∈ cuts Try.prog (lkΓ [(30, slices_Clone_S)]) Try.f29.ntmps [] (bodyOf Try.f29) (κ0 Try.prog Try.f29 true [⟨true, (.pair .int (.sl .int))⟩]), CutOk (fun _ _ _ _ => none) p := cutsNil (by kernel_rfl)
set_option maxRecDepth 5000000 in
theorem era_Check_run (x : Tup [⟨true, (.pair .int (.sl .int))⟩]) : (pxFn Try.prog (lkΓ [(37000032, slices_ContainsFunc_era_Check_1_S)]) [] Try.f26 (bodyOf Try.f26) false [⟨false, .int⟩] (encTup [⟨true, (.pair .int (.sl .int))⟩] x)).run (fun _ _ _ => none) = era_Check x := by kernel_rfl
theorem era_Check_cuts : ∀ p ∈ cuts Try.prog (lkΓ [(37000032, slices_ContainsFunc_era_Check_1_S)]) Try.f26.ntmps [] (bodyOf Try.f26) (κ0 Try.prog Try.f26 false [⟨false, .int⟩]), CutOk (fun _ _ _ _ => none) p := cutsNil (by kernel_rfl)
set_option maxRecDepth 5000000 in
theorem era_New_run (x : Tup [⟨false, .int⟩]) : (pxFn Try.prog (lkΓ [(27, slices_Repeat_S)]) [] Try.f15 (bodyOf Try.f15) true [⟨true, (.pair .int (.sl .int))⟩, ⟨false, .int⟩] (encTup [⟨false, .int⟩] x)).run (fun _ _ _ => none) = era_New x := by kernel_rfl
theorem era_New_cuts : ∀ p ∈ cuts Try.prog (lkΓ [(27, slices_Repeat_S)]) Try.f15.ntmps [] (bodyOf Try.f15) (κ0 Try.prog Try.f15 true [⟨true, (.pair .int (.sl .int))⟩, ⟨false, .int⟩]), CutOk (fun _ _ _ _ => none) p := cutsNil (by kernel_rfl)
set_option maxRecDepth 5000000 in
theorem tag_Unpack_run (x : Tup [⟨false, .int⟩]) : (pxFn Try.prog (lkΓ []) [] Try.f10 (bodyOf Try.f10) false [⟨false, .int⟩, ⟨false, .int⟩, ⟨false, .int⟩] (encTup [⟨false, .int⟩] x)).run (fun _ _ _ => none) = tag_Unpack x := by kernel_rfl
theorem tag_Unpack_cuts : ∀ p ∈ cuts Try.prog (lkΓ []) Try.f10.ntmps [] (bodyOf Try.f10) (κ0 Try.prog Try.f10 false [⟨false, .int⟩, ⟨false, .int⟩, ⟨false, .int⟩]), CutOk (fun _ _ _ _ => none) p := cutsNil (by kernel_rfl)
end Go.Proofs.YtkdohmgacodhjaaFn
