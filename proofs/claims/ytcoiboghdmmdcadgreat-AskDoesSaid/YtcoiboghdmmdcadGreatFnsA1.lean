/- What the interpreter of code computes of these functions, part 1; no condition. -/
import Derived.Test.YtcoiboghdmmdcadGreatProg
import Derived.KernelRfl
import Derived.Test.YtcoiboghdmmdcadGreatPx25
import Derived.Test.YtcoiboghdmmdcadGreatFnsD
set_option linter.unusedVariables false
set_option linter.unusedSimpArgs false
namespace Go.Proofs.YtcoiboghdmmdcadGreatFn
open Go Go.RowKit Go.Proofs.YtcoiboghdmmdcadGreatPx
set_option maxHeartbeats 0 in
set_option maxRecDepth 5000000 in
def tendrilref07_Turn_P14v0 (k : Nat) (vs : List SV) (bs : List Blk) : Option (Option ((List Int × List Int × ((List Int × List Int × List Int × List Int) × (List Int × List Int × List Int × List Int) × List Int × List Int × List Int × List Int) × Int × List Int) × Bool)) := match vs, bs with
  | [.val (.one (.ptr 0 0)), .val (.one (.ptr 1 0)), .val (.one (.ptr 2 0)), .val (.one (.bool p0)), .val (.one (.int .i64 p1))], [.box [(.sl .int p2), (.sl .int p3), (.sl .int p4), (.sl .int p5), (.sl .int p6), (.sl .int p7), (.sl .int p8), (.sl .int p9), (.sl .int p10), (.sl .int p11), (.sl .int p12), (.sl .int p13), (.sl .int p14), (.sl .int p15), (.int .i64 p16), (.row 3)], .box [.nil, .nil, .nil, .nil, .nil, .nil, .nil, .nil, .nil, .nil, .nil, .nil, .nil, .nil, (.int .i64 p17), .nil], .box [(.int .i64 p18), (.row 3)], .row .int p19] => some (tendrilref07_Turn_L14 k p0 p1 p2 p3 p4 p5 p6 p7 p8 p9 p10 p11 p12 p13 p14 p15 p16 p17 p18 p19)
  | _, _ => none
set_option maxHeartbeats 0 in
set_option maxRecDepth 5000000 in
def tendrilref07_Turn_P14v1 (k : Nat) (vs : List SV) (bs : List Blk) : Option (Option ((List Int × List Int × ((List Int × List Int × List Int × List Int) × (List Int × List Int × List Int × List Int) × List Int × List Int × List Int × List Int) × Int × List Int) × Bool)) := match vs, bs with
  | [.val (.one (.ptr 0 0)), .val (.one (.ptr 1 0)), .val (.one (.ptr 2 0)), .val (.one (.bool p0)), .val (.one (.int .i64 p1))], [.box [(.sl .int p2), (.sl .int p3), (.sl .int p4), (.sl .int p5), (.sl .int p6), (.sl .int p7), (.sl .int p8), (.sl .int p9), (.sl .int p10), (.sl .int p11), (.row 3), (.row 4), (.row 5), (.row 6), (.int .i64 p12), (.row 7)], .box [.nil, .nil, .nil, .nil, .nil, .nil, .nil, .nil, .nil, .nil, .nil, .nil, .nil, .nil, (.int .i64 p13), .nil], .box [(.int .i64 p14), (.row 7)], .row .int p15, .row .int p16, .row .int p17, .row .int p18, .row .int p19] => some (tendrilref07_Turn_L14x1 k p0 p1 p2 p3 p4 p5 p6 p7 p8 p9 p10 p11 p12 p13 p14 p15 p16 p17 p18 p19)
  | _, _ => none
set_option maxHeartbeats 0 in
set_option maxRecDepth 5000000 in
def tendrilref07_Turn_P14v2 (k : Nat) (vs : List SV) (bs : List Blk) : Option (Option ((List Int × List Int × ((List Int × List Int × List Int × List Int) × (List Int × List Int × List Int × List Int) × List Int × List Int × List Int × List Int) × Int × List Int) × Bool)) := match vs, bs with
  | [.val (.one (.ptr 0 0)), .val (.one (.ptr 1 0)), .val (.one (.ptr 2 0)), .val (.one (.bool p0)), .val (.one (.int .i64 p1))], [.box [(.sl .int p2), (.sl .int p3), (.sl .int p4), (.sl .int p5), (.sl .int p6), (.sl .int p7), (.row 3), (.row 4), (.row 5), (.row 6), (.sl .int p8), (.sl .int p9), (.sl .int p10), (.sl .int p11), (.int .i64 p12), (.row 7)], .box [.nil, .nil, .nil, .nil, .nil, .nil, .nil, .nil, .nil, .nil, .nil, .nil, .nil, .nil, (.int .i64 p13), .nil], .box [(.int .i64 p14), (.row 7)], .row .int p15, .row .int p16, .row .int p17, .row .int p18, .row .int p19] => some (tendrilref07_Turn_L14x2 k p0 p1 p2 p3 p4 p5 p6 p7 p8 p9 p10 p11 p12 p13 p14 p15 p16 p17 p18 p19)
  | _, _ => none
set_option maxHeartbeats 0 in
set_option maxRecDepth 5000000 in
def tendrilref07_Turn_P14v3 (k : Nat) (vs : List SV) (bs : List Blk) : Option (Option ((List Int × List Int × ((List Int × List Int × List Int × List Int) × (List Int × List Int × List Int × List Int) × List Int × List Int × List Int × List Int) × Int × List Int) × Bool)) := match vs, bs with
  | [.val (.one (.ptr 0 0)), .val (.one (.ptr 1 0)), .val (.one (.ptr 2 0)), .val (.one (.bool p0)), .val (.one (.int .i64 p1))], [.box [(.sl .int p2), (.sl .int p3), (.row 3), (.row 4), (.row 5), (.row 6), (.sl .int p4), (.sl .int p5), (.sl .int p6), (.sl .int p7), (.sl .int p8), (.sl .int p9), (.sl .int p10), (.sl .int p11), (.int .i64 p12), (.row 7)], .box [.nil, .nil, .nil, .nil, .nil, .nil, .nil, .nil, .nil, .nil, .nil, .nil, .nil, .nil, (.int .i64 p13), .nil], .box [(.int .i64 p14), (.row 7)], .row .int p15, .row .int p16, .row .int p17, .row .int p18, .row .int p19] => some (tendrilref07_Turn_L14x3 k p0 p1 p2 p3 p4 p5 p6 p7 p8 p9 p10 p11 p12 p13 p14 p15 p16 p17 p18 p19)
  | _, _ => none
set_option maxHeartbeats 0 in
set_option maxRecDepth 5000000 in
def tendrilref07_Turn_P14v4 (k : Nat) (vs : List SV) (bs : List Blk) : Option (Option ((List Int × List Int × ((List Int × List Int × List Int × List Int) × (List Int × List Int × List Int × List Int) × List Int × List Int × List Int × List Int) × Int × List Int) × Bool)) := match vs, bs with
  | [.val (.one (.ptr 0 0)), .val (.one (.ptr 1 0)), .val (.one (.ptr 2 0)), .val (.one (.bool p0)), .val (.one (.int .i64 p1))], [.box [(.sl .int p2), (.sl .int p3), (.sl .int p4), (.sl .int p5), (.sl .int p6), (.sl .int p7), (.row 3), (.row 4), (.row 5), (.row 6), (.row 7), (.row 8), (.row 9), (.row 10), (.int .i64 p8), (.row 11)], .box [.nil, .nil, .nil, .nil, .nil, .nil, .nil, .nil, .nil, .nil, .nil, .nil, .nil, .nil, (.int .i64 p9), .nil], .box [(.int .i64 p10), (.row 11)], .row .int p11, .row .int p12, .row .int p13, .row .int p14, .row .int p15, .row .int p16, .row .int p17, .row .int p18, .row .int p19] => some (tendrilref07_Turn_L14x4 k p0 p1 p2 p3 p4 p5 p6 p7 p8 p9 p10 p11 p12 p13 p14 p15 p16 p17 p18 p19)
  | _, _ => none
set_option maxHeartbeats 0 in
set_option maxRecDepth 5000000 in
def tendrilref07_Turn_P14v5 (k : Nat) (vs : List SV) (bs : List Blk) : Option (Option ((List Int × List Int × ((List Int × List Int × List Int × List Int) × (List Int × List Int × List Int × List Int) × List Int × List Int × List Int × List Int) × Int × List Int) × Bool)) := match vs, bs with
  | [.val (.one (.ptr 0 0)), .val (.one (.ptr 1 0)), .val (.one (.ptr 2 0)), .val (.one (.bool p0)), .val (.one (.int .i64 p1))], [.box [(.sl .int p2), (.sl .int p3), (.row 3), (.row 4), (.row 5), (.row 6), (.sl .int p4), (.sl .int p5), (.sl .int p6), (.sl .int p7), (.row 7), (.row 8), (.row 9), (.row 10), (.int .i64 p8), (.row 11)], .box [.nil, .nil, .nil, .nil, .nil, .nil, .nil, .nil, .nil, .nil, .nil, .nil, .nil, .nil, (.int .i64 p9), .nil], .box [(.int .i64 p10), (.row 11)], .row .int p11, .row .int p12, .row .int p13, .row .int p14, .row .int p15, .row .int p16, .row .int p17, .row .int p18, .row .int p19] => some (tendrilref07_Turn_L14x5 k p0 p1 p2 p3 p4 p5 p6 p7 p8 p9 p10 p11 p12 p13 p14 p15 p16 p17 p18 p19)
  | _, _ => none
set_option maxHeartbeats 0 in
set_option maxRecDepth 5000000 in
def tendrilref07_Turn_P14v6 (k : Nat) (vs : List SV) (bs : List Blk) : Option (Option ((List Int × List Int × ((List Int × List Int × List Int × List Int) × (List Int × List Int × List Int × List Int) × List Int × List Int × List Int × List Int) × Int × List Int) × Bool)) := match vs, bs with
  | [.val (.one (.ptr 0 0)), .val (.one (.ptr 1 0)), .val (.one (.ptr 2 0)), .val (.one (.bool p0)), .val (.one (.int .i64 p1))], [.box [(.sl .int p2), (.sl .int p3), (.row 3), (.row 4), (.row 5), (.row 6), (.row 7), (.row 8), (.row 9), (.row 10), (.sl .int p4), (.sl .int p5), (.sl .int p6), (.sl .int p7), (.int .i64 p8), (.row 11)], .box [.nil, .nil, .nil, .nil, .nil, .nil, .nil, .nil, .nil, .nil, .nil, .nil, .nil, .nil, (.int .i64 p9), .nil], .box [(.int .i64 p10), (.row 11)], .row .int p11, .row .int p12, .row .int p13, .row .int p14, .row .int p15, .row .int p16, .row .int p17, .row .int p18, .row .int p19] => some (tendrilref07_Turn_L14x6 k p0 p1 p2 p3 p4 p5 p6 p7 p8 p9 p10 p11 p12 p13 p14 p15 p16 p17 p18 p19)
  | _, _ => none
set_option maxHeartbeats 0 in
set_option maxRecDepth 5000000 in
def tendrilref07_Turn_P14v7 (k : Nat) (vs : List SV) (bs : List Blk) : Option (Option ((List Int × List Int × ((List Int × List Int × List Int × List Int) × (List Int × List Int × List Int × List Int) × List Int × List Int × List Int × List Int) × Int × List Int) × Bool)) := match vs, bs with
  | [.val (.one (.ptr 0 0)), .val (.one (.ptr 1 0)), .val (.one (.ptr 2 0)), .val (.one (.bool p0)), .val (.one (.int .i64 p1))], [.box [(.sl .int p2), (.sl .int p3), (.row 3), (.row 4), (.row 5), (.row 6), (.row 7), (.row 8), (.row 9), (.row 10), (.row 11), (.row 12), (.row 13), (.row 14), (.int .i64 p4), (.row 15)], .box [.nil, .nil, .nil, .nil, .nil, .nil, .nil, .nil, .nil, .nil, .nil, .nil, .nil, .nil, (.int .i64 p5), .nil], .box [(.int .i64 p6), (.row 15)], .row .int p7, .row .int p8, .row .int p9, .row .int p10, .row .int p11, .row .int p12, .row .int p13, .row .int p14, .row .int p15, .row .int p16, .row .int p17, .row .int p18, .row .int p19] => some (tendrilref07_Turn_L14x7 k p0 p1 p2 p3 p4 p5 p6 p7 p8 p9 p10 p11 p12 p13 p14 p15 p16 p17 p18 p19)
  | _, _ => none
def tendrilref07_Turn_P14 (k : Nat) (vs : List SV) (bs : List Blk) : Option ((List Int × List Int × ((List Int × List Int × List Int × List Int) × (List Int × List Int × List Int × List Int) × List Int × List Int × List Int × List Int) × Int × List Int) × Bool) := match tendrilref07_Turn_P14v0 k vs bs with | some r => r | none => match tendrilref07_Turn_P14v1 k vs bs with | some r => r | none => match tendrilref07_Turn_P14v2 k vs bs with | some r => r | none => match tendrilref07_Turn_P14v3 k vs bs with | some r => r | none => match tendrilref07_Turn_P14v4 k vs bs with | some r => r | none => match tendrilref07_Turn_P14v5 k vs bs with | some r => r | none => match tendrilref07_Turn_P14v6 k vs bs with | some r => r | none => match tendrilref07_Turn_P14v7 k vs bs with | some r => r | none => none
def tendrilref07_Turn_Λ (k L : Nat) (vs : List SV) (bs : List Blk) : Option ((List Int × List Int × ((List Int × List Int × List Int × List Int) × (List Int × List Int × List Int × List Int) × List Int × List Int × List Int × List Int) × Int × List Int) × Bool) := match Nat.beq L 14 with | true => tendrilref07_Turn_P14 k vs bs | false => none
noncomputable def tendrilref07_Turn_C : List (Cut (Tup [⟨true, (.pair (.sl .int) (.pair (.sl .int) (.pair (.pair (.pair (.sl .int) (.pair (.sl .int) (.pair (.sl .int) (.sl .int)))) (.pair (.pair (.sl .int) (.pair (.sl .int) (.pair (.sl .int) (.sl .int)))) (.pair (.sl .int) (.pair (.sl .int) (.pair (.sl .int) (.sl .int)))))) (.pair .int (.sl .int)))))⟩, ⟨false, .bool⟩])) := cuts Tryz.prog (lkΓ [(52, tendrilref07_Check_S), (105, tendrilref06_Turn_S), (106, tendrilref05_Reclaim_S), (107, tendrilref06_Safe_S)]) Tryz.f90.ntmps [(14, [1, 2, 4, 5, 19])] (bodyOf Tryz.f90) (κ0 Tryz.prog Tryz.f90 false [⟨true, (.pair (.sl .int) (.pair (.sl .int) (.pair (.pair (.pair (.sl .int) (.pair (.sl .int) (.pair (.sl .int) (.sl .int)))) (.pair (.pair (.sl .int) (.pair (.sl .int) (.pair (.sl .int) (.sl .int)))) (.pair (.sl .int) (.pair (.sl .int) (.pair (.sl .int) (.sl .int)))))) (.pair .int (.sl .int)))))⟩, ⟨false, .bool⟩])
set_option maxRecDepth 5000000 in
theorem tendrilref07_Turn_c14 (k : Nat) (p0 : Bool) (p1 : Int) (p2 : List Int) (p3 : List Int) (p4 : List Int) (p5 : List Int) (p6 : List Int) (p7 : List Int) (p8 : List Int) (p9 : List Int) (p10 : List Int) (p11 : List Int) (p12 : List Int) (p13 : List Int) (p14 : List Int) (p15 : List Int) (p16 : Int) (p17 : Int) (p18 : Int) (p19 : List Int) : ((nthC tendrilref07_Turn_C 0).g (mkSt [1, 2, 4, 5, 19] [.val (.one (.ptr 0 0)), .val (.one (.ptr 1 0)), .val (.one (.ptr 2 0)), .val (.one (.bool p0)), .val (.one (.int .i64 p1))] [.box [(.sl .int p2), (.sl .int p3), (.sl .int p4), (.sl .int p5), (.sl .int p6), (.sl .int p7), (.sl .int p8), (.sl .int p9), (.sl .int p10), (.sl .int p11), (.sl .int p12), (.sl .int p13), (.sl .int p14), (.sl .int p15), (.int .i64 p16), (.row 3)], .box [.nil, .nil, .nil, .nil, .nil, .nil, .nil, .nil, .nil, .nil, .nil, .nil, .nil, .nil, (.int .i64 p17), .nil], .box [(.int .i64 p18), (.row 3)], .row .int p19])).run (tendrilref07_Turn_Λ k) = tendrilref07_Turn_L14 (k + 1) p0 p1 p2 p3 p4 p5 p6 p7 p8 p9 p10 p11 p12 p13 p14 p15 p16 p17 p18 p19 := by kernel_rfl
set_option maxHeartbeats 0 in
set_option maxRecDepth 5000000 in
theorem tendrilref07_Turn_e14 (k : Nat) (vs : List SV) (bs : List Blk) (r : ((List Int) × ((List Int) × ((((List Int) × ((List Int) × ((List Int) × (List Int)))) × (((List Int) × ((List Int) × ((List Int) × (List Int)))) × ((List Int) × ((List Int) × ((List Int) × (List Int)))))) × (Int × (List Int))))) × Bool) (h : tendrilref07_Turn_P14v0 (k + 1) vs bs = some (some r)) : ((nthC tendrilref07_Turn_C 0).g (mkSt [1, 2, 4, 5, 19] vs bs)).run (tendrilref07_Turn_Λ k) = some r := by
  unfold tendrilref07_Turn_P14v0 at h
  split at h
  · exact (tendrilref07_Turn_c14 k _ _ _ _ _ _ _ _ _ _ _ _ _ _ _ _ _ _ _ _).trans (Option.some.inj h)
  · cases h
set_option maxRecDepth 5000000 in
theorem tendrilref07_Turn_c14x1 (k : Nat) (p0 : Bool) (p1 : Int) (p2 : List Int) (p3 : List Int) (p4 : List Int) (p5 : List Int) (p6 : List Int) (p7 : List Int) (p8 : List Int) (p9 : List Int) (p10 : List Int) (p11 : List Int) (p12 : Int) (p13 : Int) (p14 : Int) (p15 : List Int) (p16 : List Int) (p17 : List Int) (p18 : List Int) (p19 : List Int) : ((nthC tendrilref07_Turn_C 0).g (mkSt [1, 2, 4, 5, 19] [.val (.one (.ptr 0 0)), .val (.one (.ptr 1 0)), .val (.one (.ptr 2 0)), .val (.one (.bool p0)), .val (.one (.int .i64 p1))] [.box [(.sl .int p2), (.sl .int p3), (.sl .int p4), (.sl .int p5), (.sl .int p6), (.sl .int p7), (.sl .int p8), (.sl .int p9), (.sl .int p10), (.sl .int p11), (.row 3), (.row 4), (.row 5), (.row 6), (.int .i64 p12), (.row 7)], .box [.nil, .nil, .nil, .nil, .nil, .nil, .nil, .nil, .nil, .nil, .nil, .nil, .nil, .nil, (.int .i64 p13), .nil], .box [(.int .i64 p14), (.row 7)], .row .int p15, .row .int p16, .row .int p17, .row .int p18, .row .int p19])).run (tendrilref07_Turn_Λ k) = tendrilref07_Turn_L14x1 (k + 1) p0 p1 p2 p3 p4 p5 p6 p7 p8 p9 p10 p11 p12 p13 p14 p15 p16 p17 p18 p19 := by kernel_rfl
set_option maxHeartbeats 0 in
set_option maxRecDepth 5000000 in
theorem tendrilref07_Turn_e14x1 (k : Nat) (vs : List SV) (bs : List Blk) (r : ((List Int) × ((List Int) × ((((List Int) × ((List Int) × ((List Int) × (List Int)))) × (((List Int) × ((List Int) × ((List Int) × (List Int)))) × ((List Int) × ((List Int) × ((List Int) × (List Int)))))) × (Int × (List Int))))) × Bool) (h : tendrilref07_Turn_P14v1 (k + 1) vs bs = some (some r)) : ((nthC tendrilref07_Turn_C 0).g (mkSt [1, 2, 4, 5, 19] vs bs)).run (tendrilref07_Turn_Λ k) = some r := by
  unfold tendrilref07_Turn_P14v1 at h
  split at h
  · exact (tendrilref07_Turn_c14x1 k _ _ _ _ _ _ _ _ _ _ _ _ _ _ _ _ _ _ _ _).trans (Option.some.inj h)
  · cases h
set_option maxRecDepth 5000000 in
theorem tendrilref07_Turn_c14x2 (k : Nat) (p0 : Bool) (p1 : Int) (p2 : List Int) (p3 : List Int) (p4 : List Int) (p5 : List Int) (p6 : List Int) (p7 : List Int) (p8 : List Int) (p9 : List Int) (p10 : List Int) (p11 : List Int) (p12 : Int) (p13 : Int) (p14 : Int) (p15 : List Int) (p16 : List Int) (p17 : List Int) (p18 : List Int) (p19 : List Int) : ((nthC tendrilref07_Turn_C 0).g (mkSt [1, 2, 4, 5, 19] [.val (.one (.ptr 0 0)), .val (.one (.ptr 1 0)), .val (.one (.ptr 2 0)), .val (.one (.bool p0)), .val (.one (.int .i64 p1))] [.box [(.sl .int p2), (.sl .int p3), (.sl .int p4), (.sl .int p5), (.sl .int p6), (.sl .int p7), (.row 3), (.row 4), (.row 5), (.row 6), (.sl .int p8), (.sl .int p9), (.sl .int p10), (.sl .int p11), (.int .i64 p12), (.row 7)], .box [.nil, .nil, .nil, .nil, .nil, .nil, .nil, .nil, .nil, .nil, .nil, .nil, .nil, .nil, (.int .i64 p13), .nil], .box [(.int .i64 p14), (.row 7)], .row .int p15, .row .int p16, .row .int p17, .row .int p18, .row .int p19])).run (tendrilref07_Turn_Λ k) = tendrilref07_Turn_L14x2 (k + 1) p0 p1 p2 p3 p4 p5 p6 p7 p8 p9 p10 p11 p12 p13 p14 p15 p16 p17 p18 p19 := by kernel_rfl
set_option maxHeartbeats 0 in
set_option maxRecDepth 5000000 in
theorem tendrilref07_Turn_e14x2 (k : Nat) (vs : List SV) (bs : List Blk) (r : ((List Int) × ((List Int) × ((((List Int) × ((List Int) × ((List Int) × (List Int)))) × (((List Int) × ((List Int) × ((List Int) × (List Int)))) × ((List Int) × ((List Int) × ((List Int) × (List Int)))))) × (Int × (List Int))))) × Bool) (h : tendrilref07_Turn_P14v2 (k + 1) vs bs = some (some r)) : ((nthC tendrilref07_Turn_C 0).g (mkSt [1, 2, 4, 5, 19] vs bs)).run (tendrilref07_Turn_Λ k) = some r := by
  unfold tendrilref07_Turn_P14v2 at h
  split at h
  · exact (tendrilref07_Turn_c14x2 k _ _ _ _ _ _ _ _ _ _ _ _ _ _ _ _ _ _ _ _).trans (Option.some.inj h)
  · cases h
set_option maxRecDepth 5000000 in
theorem tendrilref07_Turn_c14x3 (k : Nat) (p0 : Bool) (p1 : Int) (p2 : List Int) (p3 : List Int) (p4 : List Int) (p5 : List Int) (p6 : List Int) (p7 : List Int) (p8 : List Int) (p9 : List Int) (p10 : List Int) (p11 : List Int) (p12 : Int) (p13 : Int) (p14 : Int) (p15 : List Int) (p16 : List Int) (p17 : List Int) (p18 : List Int) (p19 : List Int) : ((nthC tendrilref07_Turn_C 0).g (mkSt [1, 2, 4, 5, 19] [.val (.one (.ptr 0 0)), .val (.one (.ptr 1 0)), .val (.one (.ptr 2 0)), .val (.one (.bool p0)), .val (.one (.int .i64 p1))] [.box [(.sl .int p2), (.sl .int p3), (.row 3), (.row 4), (.row 5), (.row 6), (.sl .int p4), (.sl .int p5), (.sl .int p6), (.sl .int p7), (.sl .int p8), (.sl .int p9), (.sl .int p10), (.sl .int p11), (.int .i64 p12), (.row 7)], .box [.nil, .nil, .nil, .nil, .nil, .nil, .nil, .nil, .nil, .nil, .nil, .nil, .nil, .nil, (.int .i64 p13), .nil], .box [(.int .i64 p14), (.row 7)], .row .int p15, .row .int p16, .row .int p17, .row .int p18, .row .int p19])).run (tendrilref07_Turn_Λ k) = tendrilref07_Turn_L14x3 (k + 1) p0 p1 p2 p3 p4 p5 p6 p7 p8 p9 p10 p11 p12 p13 p14 p15 p16 p17 p18 p19 := by kernel_rfl
set_option maxHeartbeats 0 in
set_option maxRecDepth 5000000 in
theorem tendrilref07_Turn_e14x3 (k : Nat) (vs : List SV) (bs : List Blk) (r : ((List Int) × ((List Int) × ((((List Int) × ((List Int) × ((List Int) × (List Int)))) × (((List Int) × ((List Int) × ((List Int) × (List Int)))) × ((List Int) × ((List Int) × ((List Int) × (List Int)))))) × (Int × (List Int))))) × Bool) (h : tendrilref07_Turn_P14v3 (k + 1) vs bs = some (some r)) : ((nthC tendrilref07_Turn_C 0).g (mkSt [1, 2, 4, 5, 19] vs bs)).run (tendrilref07_Turn_Λ k) = some r := by
  unfold tendrilref07_Turn_P14v3 at h
  split at h
  · exact (tendrilref07_Turn_c14x3 k _ _ _ _ _ _ _ _ _ _ _ _ _ _ _ _ _ _ _ _).trans (Option.some.inj h)
  · cases h
set_option maxRecDepth 5000000 in
theorem tendrilref07_Turn_c14x4 (k : Nat) (p0 : Bool) (p1 : Int) (p2 : List Int) (p3 : List Int) (p4 : List Int) (p5 : List Int) (p6 : List Int) (p7 : List Int) (p8 : Int) (p9 : Int) (p10 : Int) (p11 : List Int) (p12 : List Int) (p13 : List Int) (p14 : List Int) (p15 : List Int) (p16 : List Int) (p17 : List Int) (p18 : List Int) (p19 : List Int) : ((nthC tendrilref07_Turn_C 0).g (mkSt [1, 2, 4, 5, 19] [.val (.one (.ptr 0 0)), .val (.one (.ptr 1 0)), .val (.one (.ptr 2 0)), .val (.one (.bool p0)), .val (.one (.int .i64 p1))] [.box [(.sl .int p2), (.sl .int p3), (.sl .int p4), (.sl .int p5), (.sl .int p6), (.sl .int p7), (.row 3), (.row 4), (.row 5), (.row 6), (.row 7), (.row 8), (.row 9), (.row 10), (.int .i64 p8), (.row 11)], .box [.nil, .nil, .nil, .nil, .nil, .nil, .nil, .nil, .nil, .nil, .nil, .nil, .nil, .nil, (.int .i64 p9), .nil], .box [(.int .i64 p10), (.row 11)], .row .int p11, .row .int p12, .row .int p13, .row .int p14, .row .int p15, .row .int p16, .row .int p17, .row .int p18, .row .int p19])).run (tendrilref07_Turn_Λ k) = tendrilref07_Turn_L14x4 (k + 1) p0 p1 p2 p3 p4 p5 p6 p7 p8 p9 p10 p11 p12 p13 p14 p15 p16 p17 p18 p19 := by kernel_rfl
set_option maxHeartbeats 0 in
set_option maxRecDepth 5000000 in
theorem tendrilref07_Turn_e14x4 (k : Nat) (vs : List SV) (bs : List Blk) (r : ((List Int) × ((List Int) × ((((List Int) × ((List Int) × ((List Int) × (List Int)))) × (((List Int) × ((List Int) × ((List Int) × (List Int)))) × ((List Int) × ((List Int) × ((List Int) × (List Int)))))) × (Int × (List Int))))) × Bool) (h : tendrilref07_Turn_P14v4 (k + 1) vs bs = some (some r)) : ((nthC tendrilref07_Turn_C 0).g (mkSt [1, 2, 4, 5, 19] vs bs)).run (tendrilref07_Turn_Λ k) = some r := by
  unfold tendrilref07_Turn_P14v4 at h
  split at h
  · exact (tendrilref07_Turn_c14x4 k _ _ _ _ _ _ _ _ _ _ _ _ _ _ _ _ _ _ _ _).trans (Option.some.inj h)
  · cases h
set_option maxRecDepth 5000000 in
theorem tendrilref07_Turn_c14x5 (k : Nat) (p0 : Bool) (p1 : Int) (p2 : List Int) (p3 : List Int) (p4 : List Int) (p5 : List Int) (p6 : List Int) (p7 : List Int) (p8 : Int) (p9 : Int) (p10 : Int) (p11 : List Int) (p12 : List Int) (p13 : List Int) (p14 : List Int) (p15 : List Int) (p16 : List Int) (p17 : List Int) (p18 : List Int) (p19 : List Int) : ((nthC tendrilref07_Turn_C 0).g (mkSt [1, 2, 4, 5, 19] [.val (.one (.ptr 0 0)), .val (.one (.ptr 1 0)), .val (.one (.ptr 2 0)), .val (.one (.bool p0)), .val (.one (.int .i64 p1))] [.box [(.sl .int p2), (.sl .int p3), (.row 3), (.row 4), (.row 5), (.row 6), (.sl .int p4), (.sl .int p5), (.sl .int p6), (.sl .int p7), (.row 7), (.row 8), (.row 9), (.row 10), (.int .i64 p8), (.row 11)], .box [.nil, .nil, .nil, .nil, .nil, .nil, .nil, .nil, .nil, .nil, .nil, .nil, .nil, .nil, (.int .i64 p9), .nil], .box [(.int .i64 p10), (.row 11)], .row .int p11, .row .int p12, .row .int p13, .row .int p14, .row .int p15, .row .int p16, .row .int p17, .row .int p18, .row .int p19])).run (tendrilref07_Turn_Λ k) = tendrilref07_Turn_L14x5 (k + 1) p0 p1 p2 p3 p4 p5 p6 p7 p8 p9 p10 p11 p12 p13 p14 p15 p16 p17 p18 p19 := by kernel_rfl
set_option maxHeartbeats 0 in
set_option maxRecDepth 5000000 in
theorem tendrilref07_Turn_e14x5 (k : Nat) (vs : List SV) (bs : List Blk) (r : ((List Int) × ((List Int) × ((((List Int) × ((List Int) × ((List Int) × (List Int)))) × (((List Int) × ((List Int) × ((List Int) × (List Int)))) × ((List Int) × ((List Int) × ((List Int) × (List Int)))))) × (Int × (List Int))))) × Bool) (h : tendrilref07_Turn_P14v5 (k + 1) vs bs = some (some r)) : ((nthC tendrilref07_Turn_C 0).g (mkSt [1, 2, 4, 5, 19] vs bs)).run (tendrilref07_Turn_Λ k) = some r := by
  unfold tendrilref07_Turn_P14v5 at h
  split at h
  · exact (tendrilref07_Turn_c14x5 k _ _ _ _ _ _ _ _ _ _ _ _ _ _ _ _ _ _ _ _).trans (Option.some.inj h)
  · cases h
set_option maxRecDepth 5000000 in
theorem tendrilref07_Turn_c14x6 (k : Nat) (p0 : Bool) (p1 : Int) (p2 : List Int) (p3 : List Int) (p4 : List Int) (p5 : List Int) (p6 : List Int) (p7 : List Int) (p8 : Int) (p9 : Int) (p10 : Int) (p11 : List Int) (p12 : List Int) (p13 : List Int) (p14 : List Int) (p15 : List Int) (p16 : List Int) (p17 : List Int) (p18 : List Int) (p19 : List Int) : ((nthC tendrilref07_Turn_C 0).g (mkSt [1, 2, 4, 5, 19] [.val (.one (.ptr 0 0)), .val (.one (.ptr 1 0)), .val (.one (.ptr 2 0)), .val (.one (.bool p0)), .val (.one (.int .i64 p1))] [.box [(.sl .int p2), (.sl .int p3), (.row 3), (.row 4), (.row 5), (.row 6), (.row 7), (.row 8), (.row 9), (.row 10), (.sl .int p4), (.sl .int p5), (.sl .int p6), (.sl .int p7), (.int .i64 p8), (.row 11)], .box [.nil, .nil, .nil, .nil, .nil, .nil, .nil, .nil, .nil, .nil, .nil, .nil, .nil, .nil, (.int .i64 p9), .nil], .box [(.int .i64 p10), (.row 11)], .row .int p11, .row .int p12, .row .int p13, .row .int p14, .row .int p15, .row .int p16, .row .int p17, .row .int p18, .row .int p19])).run (tendrilref07_Turn_Λ k) = tendrilref07_Turn_L14x6 (k + 1) p0 p1 p2 p3 p4 p5 p6 p7 p8 p9 p10 p11 p12 p13 p14 p15 p16 p17 p18 p19 := by kernel_rfl
set_option maxHeartbeats 0 in
set_option maxRecDepth 5000000 in
theorem tendrilref07_Turn_e14x6 (k : Nat) (vs : List SV) (bs : List Blk) (r : ((List Int) × ((List Int) × ((((List Int) × ((List Int) × ((List Int) × (List Int)))) × (((List Int) × ((List Int) × ((List Int) × (List Int)))) × ((List Int) × ((List Int) × ((List Int) × (List Int)))))) × (Int × (List Int))))) × Bool) (h : tendrilref07_Turn_P14v6 (k + 1) vs bs = some (some r)) : ((nthC tendrilref07_Turn_C 0).g (mkSt [1, 2, 4, 5, 19] vs bs)).run (tendrilref07_Turn_Λ k) = some r := by
  unfold tendrilref07_Turn_P14v6 at h
  split at h
  · exact (tendrilref07_Turn_c14x6 k _ _ _ _ _ _ _ _ _ _ _ _ _ _ _ _ _ _ _ _).trans (Option.some.inj h)
  · cases h
set_option maxRecDepth 5000000 in
theorem tendrilref07_Turn_c14x7 (k : Nat) (p0 : Bool) (p1 : Int) (p2 : List Int) (p3 : List Int) (p4 : Int) (p5 : Int) (p6 : Int) (p7 : List Int) (p8 : List Int) (p9 : List Int) (p10 : List Int) (p11 : List Int) (p12 : List Int) (p13 : List Int) (p14 : List Int) (p15 : List Int) (p16 : List Int) (p17 : List Int) (p18 : List Int) (p19 : List Int) : ((nthC tendrilref07_Turn_C 0).g (mkSt [1, 2, 4, 5, 19] [.val (.one (.ptr 0 0)), .val (.one (.ptr 1 0)), .val (.one (.ptr 2 0)), .val (.one (.bool p0)), .val (.one (.int .i64 p1))] [.box [(.sl .int p2), (.sl .int p3), (.row 3), (.row 4), (.row 5), (.row 6), (.row 7), (.row 8), (.row 9), (.row 10), (.row 11), (.row 12), (.row 13), (.row 14), (.int .i64 p4), (.row 15)], .box [.nil, .nil, .nil, .nil, .nil, .nil, .nil, .nil, .nil, .nil, .nil, .nil, .nil, .nil, (.int .i64 p5), .nil], .box [(.int .i64 p6), (.row 15)], .row .int p7, .row .int p8, .row .int p9, .row .int p10, .row .int p11, .row .int p12, .row .int p13, .row .int p14, .row .int p15, .row .int p16, .row .int p17, .row .int p18, .row .int p19])).run (tendrilref07_Turn_Λ k) = tendrilref07_Turn_L14x7 (k + 1) p0 p1 p2 p3 p4 p5 p6 p7 p8 p9 p10 p11 p12 p13 p14 p15 p16 p17 p18 p19 := by kernel_rfl
set_option maxHeartbeats 0 in
set_option maxRecDepth 5000000 in
theorem tendrilref07_Turn_e14x7 (k : Nat) (vs : List SV) (bs : List Blk) (r : ((List Int) × ((List Int) × ((((List Int) × ((List Int) × ((List Int) × (List Int)))) × (((List Int) × ((List Int) × ((List Int) × (List Int)))) × ((List Int) × ((List Int) × ((List Int) × (List Int)))))) × (Int × (List Int))))) × Bool) (h : tendrilref07_Turn_P14v7 (k + 1) vs bs = some (some r)) : ((nthC tendrilref07_Turn_C 0).g (mkSt [1, 2, 4, 5, 19] vs bs)).run (tendrilref07_Turn_Λ k) = some r := by
  unfold tendrilref07_Turn_P14v7 at h
  split at h
  · exact (tendrilref07_Turn_c14x7 k _ _ _ _ _ _ _ _ _ _ _ _ _ _ _ _ _ _ _ _).trans (Option.some.inj h)
  · cases h
theorem tendrilref07_Turn_d14 : CutOk tendrilref07_Turn_Λ (nthC tendrilref07_Turn_C 0) := by
  refine cutOk_of (L := 14) (live := [1, 2, 4, 5, 19]) (by kernel_rfl) (by kernel_rfl) fun k vs bs r h => ?_
  change tendrilref07_Turn_P14 (k + 1) vs bs = some r at h
  unfold tendrilref07_Turn_P14 at h
  split at h
  · rename_i q hq
    exact tendrilref07_Turn_e14 k vs bs r (hq.trans (congrArg some h))
  split at h
  · rename_i q hq
    exact tendrilref07_Turn_e14x1 k vs bs r (hq.trans (congrArg some h))
  split at h
  · rename_i q hq
    exact tendrilref07_Turn_e14x2 k vs bs r (hq.trans (congrArg some h))
  split at h
  · rename_i q hq
    exact tendrilref07_Turn_e14x3 k vs bs r (hq.trans (congrArg some h))
  split at h
  · rename_i q hq
    exact tendrilref07_Turn_e14x4 k vs bs r (hq.trans (congrArg some h))
  split at h
  · rename_i q hq
    exact tendrilref07_Turn_e14x5 k vs bs r (hq.trans (congrArg some h))
  split at h
  · rename_i q hq
    exact tendrilref07_Turn_e14x6 k vs bs r (hq.trans (congrArg some h))
  split at h
  · rename_i q hq
    exact tendrilref07_Turn_e14x7 k vs bs r (hq.trans (congrArg some h))
  cases h
theorem tendrilref07_Turn_cuts : ∀ p ∈ cuts Tryz.prog (lkΓ [(52, tendrilref07_Check_S), (105, tendrilref06_Turn_S), (106, tendrilref05_Reclaim_S), (107, tendrilref06_Safe_S)]) Tryz.f90.ntmps [(14, [1, 2, 4, 5, 19])] (bodyOf Tryz.f90) (κ0 Tryz.prog Tryz.f90 false [⟨true, (.pair (.sl .int) (.pair (.sl .int) (.pair (.pair (.pair (.sl .int) (.pair (.sl .int) (.pair (.sl .int) (.sl .int)))) (.pair (.pair (.sl .int) (.pair (.sl .int) (.pair (.sl .int) (.sl .int)))) (.pair (.sl .int) (.pair (.sl .int) (.pair (.sl .int) (.sl .int)))))) (.pair .int (.sl .int)))))⟩, ⟨false, .bool⟩]), CutOk tendrilref07_Turn_Λ p := cutsOk (l := tendrilref07_Turn_C) (n := 1) (by kernel_rfl) fun
  | 0, _ => tendrilref07_Turn_d14
  | k + 1, h => absurd h (by omega)
set_option maxHeartbeats 0 in
set_option maxRecDepth 5000000 in
theorem tendrilref07_Turn_z14 (vs : List SV) (bs : List Blk) (q : Option (((List Int) × ((List Int) × ((((List Int) × ((List Int) × ((List Int) × (List Int)))) × (((List Int) × ((List Int) × ((List Int) × (List Int)))) × ((List Int) × ((List Int) × ((List Int) × (List Int)))))) × (Int × (List Int))))) × Bool)) (h : tendrilref07_Turn_P14v0 0 vs bs = some q) : q = none := by
  unfold tendrilref07_Turn_P14v0 at h; split at h
  · have h := Option.some.inj h; rw [← h]; first | rfl | (unfold tendrilref07_Turn_L14; rfl)
  · cases h
set_option maxHeartbeats 0 in
set_option maxRecDepth 5000000 in
theorem tendrilref07_Turn_z14x1 (vs : List SV) (bs : List Blk) (q : Option (((List Int) × ((List Int) × ((((List Int) × ((List Int) × ((List Int) × (List Int)))) × (((List Int) × ((List Int) × ((List Int) × (List Int)))) × ((List Int) × ((List Int) × ((List Int) × (List Int)))))) × (Int × (List Int))))) × Bool)) (h : tendrilref07_Turn_P14v1 0 vs bs = some q) : q = none := by
  unfold tendrilref07_Turn_P14v1 at h; split at h
  · have h := Option.some.inj h; rw [← h]; first | rfl | (unfold tendrilref07_Turn_L14x1; rfl)
  · cases h
set_option maxHeartbeats 0 in
set_option maxRecDepth 5000000 in
theorem tendrilref07_Turn_z14x2 (vs : List SV) (bs : List Blk) (q : Option (((List Int) × ((List Int) × ((((List Int) × ((List Int) × ((List Int) × (List Int)))) × (((List Int) × ((List Int) × ((List Int) × (List Int)))) × ((List Int) × ((List Int) × ((List Int) × (List Int)))))) × (Int × (List Int))))) × Bool)) (h : tendrilref07_Turn_P14v2 0 vs bs = some q) : q = none := by
  unfold tendrilref07_Turn_P14v2 at h; split at h
  · have h := Option.some.inj h; rw [← h]; first | rfl | (unfold tendrilref07_Turn_L14x2; rfl)
  · cases h
set_option maxHeartbeats 0 in
set_option maxRecDepth 5000000 in
theorem tendrilref07_Turn_z14x3 (vs : List SV) (bs : List Blk) (q : Option (((List Int) × ((List Int) × ((((List Int) × ((List Int) × ((List Int) × (List Int)))) × (((List Int) × ((List Int) × ((List Int) × (List Int)))) × ((List Int) × ((List Int) × ((List Int) × (List Int)))))) × (Int × (List Int))))) × Bool)) (h : tendrilref07_Turn_P14v3 0 vs bs = some q) : q = none := by
  unfold tendrilref07_Turn_P14v3 at h; split at h
  · have h := Option.some.inj h; rw [← h]; first | rfl | (unfold tendrilref07_Turn_L14x3; rfl)
  · cases h
set_option maxHeartbeats 0 in
set_option maxRecDepth 5000000 in
theorem tendrilref07_Turn_z14x4 (vs : List SV) (bs : List Blk) (q : Option (((List Int) × ((List Int) × ((((List Int) × ((List Int) × ((List Int) × (List Int)))) × (((List Int) × ((List Int) × ((List Int) × (List Int)))) × ((List Int) × ((List Int) × ((List Int) × (List Int)))))) × (Int × (List Int))))) × Bool)) (h : tendrilref07_Turn_P14v4 0 vs bs = some q) : q = none := by
  unfold tendrilref07_Turn_P14v4 at h; split at h
  · have h := Option.some.inj h; rw [← h]; first | rfl | (unfold tendrilref07_Turn_L14x4; rfl)
  · cases h
set_option maxHeartbeats 0 in
set_option maxRecDepth 5000000 in
theorem tendrilref07_Turn_z14x5 (vs : List SV) (bs : List Blk) (q : Option (((List Int) × ((List Int) × ((((List Int) × ((List Int) × ((List Int) × (List Int)))) × (((List Int) × ((List Int) × ((List Int) × (List Int)))) × ((List Int) × ((List Int) × ((List Int) × (List Int)))))) × (Int × (List Int))))) × Bool)) (h : tendrilref07_Turn_P14v5 0 vs bs = some q) : q = none := by
  unfold tendrilref07_Turn_P14v5 at h; split at h
  · have h := Option.some.inj h; rw [← h]; first | rfl | (unfold tendrilref07_Turn_L14x5; rfl)
  · cases h
set_option maxHeartbeats 0 in
set_option maxRecDepth 5000000 in
theorem tendrilref07_Turn_z14x6 (vs : List SV) (bs : List Blk) (q : Option (((List Int) × ((List Int) × ((((List Int) × ((List Int) × ((List Int) × (List Int)))) × (((List Int) × ((List Int) × ((List Int) × (List Int)))) × ((List Int) × ((List Int) × ((List Int) × (List Int)))))) × (Int × (List Int))))) × Bool)) (h : tendrilref07_Turn_P14v6 0 vs bs = some q) : q = none := by
  unfold tendrilref07_Turn_P14v6 at h; split at h
  · have h := Option.some.inj h; rw [← h]; first | rfl | (unfold tendrilref07_Turn_L14x6; rfl)
  · cases h
set_option maxHeartbeats 0 in
set_option maxRecDepth 5000000 in
theorem tendrilref07_Turn_z14x7 (vs : List SV) (bs : List Blk) (q : Option (((List Int) × ((List Int) × ((((List Int) × ((List Int) × ((List Int) × (List Int)))) × (((List Int) × ((List Int) × ((List Int) × (List Int)))) × ((List Int) × ((List Int) × ((List Int) × (List Int)))))) × (Int × (List Int))))) × Bool)) (h : tendrilref07_Turn_P14v7 0 vs bs = some q) : q = none := by
  unfold tendrilref07_Turn_P14v7 at h; split at h
  · have h := Option.some.inj h; rw [← h]; first | rfl | (unfold tendrilref07_Turn_L14x7; rfl)
  · cases h
theorem tendrilref07_Turn_Λ0 (L : Nat) (vs : List SV) (bs : List Blk) : tendrilref07_Turn_Λ 0 L vs bs = none := by
  unfold tendrilref07_Turn_Λ
  split
  · unfold tendrilref07_Turn_P14
    split
    · rename_i q hq; exact tendrilref07_Turn_z14 _ _ q hq
    split
    · rename_i q hq; exact tendrilref07_Turn_z14x1 _ _ q hq
    split
    · rename_i q hq; exact tendrilref07_Turn_z14x2 _ _ q hq
    split
    · rename_i q hq; exact tendrilref07_Turn_z14x3 _ _ q hq
    split
    · rename_i q hq; exact tendrilref07_Turn_z14x4 _ _ q hq
    split
    · rename_i q hq; exact tendrilref07_Turn_z14x5 _ _ q hq
    split
    · rename_i q hq; exact tendrilref07_Turn_z14x6 _ _ q hq
    split
    · rename_i q hq; exact tendrilref07_Turn_z14x7 _ _ q hq
    rfl
  rfl
set_option maxRecDepth 5000000 in
theorem tendrilref07_Turn_run (K : Nat) (x : Tup [⟨true, (.pair (.sl .int) (.pair (.sl .int) (.pair (.pair (.pair (.sl .int) (.pair (.sl .int) (.pair (.sl .int) (.sl .int)))) (.pair (.pair (.sl .int) (.pair (.sl .int) (.pair (.sl .int) (.sl .int)))) (.pair (.sl .int) (.pair (.sl .int) (.pair (.sl .int) (.sl .int)))))) (.pair .int (.sl .int)))))⟩]) : (pxFn Tryz.prog (lkΓ [(52, tendrilref07_Check_S), (105, tendrilref06_Turn_S), (106, tendrilref05_Reclaim_S), (107, tendrilref06_Safe_S)]) [(14, [1, 2, 4, 5, 19])] Tryz.f90 (bodyOf Tryz.f90) false [⟨true, (.pair (.sl .int) (.pair (.sl .int) (.pair (.pair (.pair (.sl .int) (.pair (.sl .int) (.pair (.sl .int) (.sl .int)))) (.pair (.pair (.sl .int) (.pair (.sl .int) (.pair (.sl .int) (.sl .int)))) (.pair (.sl .int) (.pair (.sl .int) (.pair (.sl .int) (.sl .int)))))) (.pair .int (.sl .int)))))⟩, ⟨false, .bool⟩] (encTup [⟨true, (.pair (.sl .int) (.pair (.sl .int) (.pair (.pair (.pair (.sl .int) (.pair (.sl .int) (.pair (.sl .int) (.sl .int)))) (.pair (.pair (.sl .int) (.pair (.sl .int) (.pair (.sl .int) (.sl .int)))) (.pair (.sl .int) (.pair (.sl .int) (.pair (.sl .int) (.sl .int)))))) (.pair .int (.sl .int)))))⟩] x)).run (tendrilref07_Turn_Λ K) = tendrilref07_Turn_K K x := by kernel_rfl
set_option maxHeartbeats 0 in
set_option maxRecDepth 5000000 in
def slices_Index_P6v0 (k : Nat) (vs : List SV) (bs : List Blk) : Option (Option (Int)) := match vs, bs with
  | [.val (.one (.sl .bool p0)), .val (.one (.bool p1)), .val (.one (.int .i64 p2)), .val (.one (.int .i64 p3))], [] => some (slices_Index_L6 k p0 p1 p2 p3)
  | _, _ => none
def slices_Index_P6 (k : Nat) (vs : List SV) (bs : List Blk) : Option (Int) := match slices_Index_P6v0 k vs bs with | some r => r | none => none
def slices_Index_Λ (k L : Nat) (vs : List SV) (bs : List Blk) : Option (Int) := match Nat.beq L 6 with | true => slices_Index_P6 k vs bs | false => none
noncomputable def slices_Index_C : List (Cut (Tup [⟨false, .int⟩])) := cuts Tryz.prog (lkΓ []) Tryz.f112.ntmps [(6, [0, 1, 7, 8])] (bodyOf Tryz.f112) (κ0 Tryz.prog Tryz.f112 false [⟨false, .int⟩])
set_option maxRecDepth 5000000 in
theorem slices_Index_c6 (k : Nat) (p0 : List Bool) (p1 : Bool) (p2 : Int) (p3 : Int) : ((nthC slices_Index_C 0).g (mkSt [0, 1, 7, 8] [.val (.one (.sl .bool p0)), .val (.one (.bool p1)), .val (.one (.int .i64 p2)), .val (.one (.int .i64 p3))] [])).run (slices_Index_Λ k) = slices_Index_L6 (k + 1) p0 p1 p2 p3 := by kernel_rfl
set_option maxHeartbeats 0 in
set_option maxRecDepth 5000000 in
theorem slices_Index_e6 (k : Nat) (vs : List SV) (bs : List Blk) (r : Int) (h : slices_Index_P6v0 (k + 1) vs bs = some (some r)) : ((nthC slices_Index_C 0).g (mkSt [0, 1, 7, 8] vs bs)).run (slices_Index_Λ k) = some r := by
  unfold slices_Index_P6v0 at h
  split at h
  · exact (slices_Index_c6 k _ _ _ _).trans (Option.some.inj h)
  · cases h
theorem slices_Index_d6 : CutOk slices_Index_Λ (nthC slices_Index_C 0) := by
  refine cutOk_of (L := 6) (live := [0, 1, 7, 8]) (by kernel_rfl) (by kernel_rfl) fun k vs bs r h => ?_
  change slices_Index_P6 (k + 1) vs bs = some r at h
  unfold slices_Index_P6 at h
  split at h
  · rename_i q hq
    exact slices_Index_e6 k vs bs r (hq.trans (congrArg some h))
  cases h
theorem slices_Index_cuts : ∀ p ∈ cuts Tryz.prog (lkΓ []) Tryz.f112.ntmps [(6, [0, 1, 7, 8])] (bodyOf Tryz.f112) (κ0 Tryz.prog Tryz.f112 false [⟨false, .int⟩]), CutOk slices_Index_Λ p := cutsOk (l := slices_Index_C) (n := 1) (by kernel_rfl) fun
  | 0, _ => slices_Index_d6
  | k + 1, h => absurd h (by omega)
set_option maxHeartbeats 0 in
set_option maxRecDepth 5000000 in
theorem slices_Index_z6 (vs : List SV) (bs : List Blk) (q : Option (Int)) (h : slices_Index_P6v0 0 vs bs = some q) : q = none := by
  unfold slices_Index_P6v0 at h; split at h
  · have h := Option.some.inj h; rw [← h]; first | rfl | (unfold slices_Index_L6; rfl)
  · cases h
theorem slices_Index_Λ0 (L : Nat) (vs : List SV) (bs : List Blk) : slices_Index_Λ 0 L vs bs = none := by
  unfold slices_Index_Λ
  split
  · unfold slices_Index_P6
    split
    · rename_i q hq; exact slices_Index_z6 _ _ q hq
    rfl
  rfl
set_option maxRecDepth 5000000 in
theorem slices_Index_run (K : Nat) (x : Tup [⟨false, (.sl .bool)⟩, ⟨false, .bool⟩]) : (pxFn Tryz.prog (lkΓ []) [(6, [0, 1, 7, 8])] Tryz.f112 (bodyOf Tryz.f112) false [⟨false, .int⟩] (encTup [⟨false, (.sl .bool)⟩, ⟨false, .bool⟩] x)).run (slices_Index_Λ K) = slices_Index_K K x := by kernel_rfl
set_option maxRecDepth 5000000 in
theorem tendrilref07_Retire_run (x : Tup [⟨true, (.pair (.sl .int) (.pair (.sl .int) (.pair (.pair (.pair (.sl .int) (.pair (.sl .int) (.pair (.sl .int) (.sl .int)))) (.pair (.pair (.sl .int) (.pair (.sl .int) (.pair (.sl .int) (.sl .int)))) (.pair (.sl .int) (.pair (.sl .int) (.pair (.sl .int) (.sl .int)))))) (.pair .int (.sl .int)))))⟩, ⟨false, .int⟩, ⟨false, .int⟩]) : (pxFn Tryz.prog (lkΓ [(52, tendrilref07_Check_S), (68, tendrilref07_kind_S), (93, tendrilref05_Retire_S)]) [] Tryz.f67 (bodyOf Tryz.f67) false [⟨true, (.pair (.sl .int) (.pair (.sl .int) (.pair (.pair (.pair (.sl .int) (.pair (.sl .int) (.pair (.sl .int) (.sl .int)))) (.pair (.pair (.sl .int) (.pair (.sl .int) (.pair (.sl .int) (.sl .int)))) (.pair (.sl .int) (.pair (.sl .int) (.pair (.sl .int) (.sl .int)))))) (.pair .int (.sl .int)))))⟩, ⟨false, .int⟩] (encTup [⟨true, (.pair (.sl .int) (.pair (.sl .int) (.pair (.pair (.pair (.sl .int) (.pair (.sl .int) (.pair (.sl .int) (.sl .int)))) (.pair (.pair (.sl .int) (.pair (.sl .int) (.pair (.sl .int) (.sl .int)))) (.pair (.sl .int) (.pair (.sl .int) (.pair (.sl .int) (.sl .int)))))) (.pair .int (.sl .int)))))⟩, ⟨false, .int⟩, ⟨false, .int⟩] x)).run (fun _ _ _ => none) = tendrilref07_Retire x := by kernel_rfl
theorem tendrilref07_Retire_cuts : ∀ p ∈ cuts Tryz.prog (lkΓ [(52, tendrilref07_Check_S), (68, tendrilref07_kind_S), (93, tendrilref05_Retire_S)]) Tryz.f67.ntmps [] (bodyOf Tryz.f67) (κ0 Tryz.prog Tryz.f67 false [⟨true, (.pair (.sl .int) (.pair (.sl .int) (.pair (.pair (.pair (.sl .int) (.pair (.sl .int) (.pair (.sl .int) (.sl .int)))) (.pair (.pair (.sl .int) (.pair (.sl .int) (.pair (.sl .int) (.sl .int)))) (.pair (.sl .int) (.pair (.sl .int) (.pair (.sl .int) (.sl .int)))))) (.pair .int (.sl .int)))))⟩, ⟨false, .int⟩]), CutOk (fun _ _ _ _ => none) p := cutsNil (by kernel_rfl)
set_option maxRecDepth 5000000 in
theorem tendrillaw16_AskDoes_run (x : Tup [⟨true, (.pair .int (.pair .int (.pair .int (.pair .int .int))))⟩, ⟨true, (.pair (.sl .int) (.pair (.sl .int) (.pair (.pair (.pair (.sl .int) (.pair (.sl .int) (.pair (.sl .int) (.sl .int)))) (.pair (.pair (.sl .int) (.pair (.sl .int) (.pair (.sl .int) (.sl .int)))) (.pair (.sl .int) (.pair (.sl .int) (.pair (.sl .int) (.sl .int)))))) (.pair .int (.sl .int)))))⟩, ⟨false, .int⟩, ⟨true, (.pair .int (.pair .int (.pair .int (.pair .int (.pair .int .int)))))⟩]) : (pxFn Tryz.prog (lkΓ [(4, tendrillaw16_live_S), (5, tendrilref07_Few_S), (6, tendrilref02_Copy_S), (7, ask_Do_S), (8, tendrilref16_Do_S), (9, tendrilref07_Same_S), (10, tendrilref16_SameTouches_S)]) [] Tryz.f3 (bodyOf Tryz.f3) false [⟨false, .bool⟩] (encTup [⟨true, (.pair .int (.pair .int (.pair .int (.pair .int .int))))⟩, ⟨true, (.pair (.sl .int) (.pair (.sl .int) (.pair (.pair (.pair (.sl .int) (.pair (.sl .int) (.pair (.sl .int) (.sl .int)))) (.pair (.pair (.sl .int) (.pair (.sl .int) (.pair (.sl .int) (.sl .int)))) (.pair (.sl .int) (.pair (.sl .int) (.pair (.sl .int) (.sl .int)))))) (.pair .int (.sl .int)))))⟩, ⟨false, .int⟩, ⟨true, (.pair .int (.pair .int (.pair .int (.pair .int (.pair .int .int)))))⟩] x)).run (fun _ _ _ => none) = tendrillaw16_AskDoes x := by kernel_rfl
theorem tendrillaw16_AskDoes_cuts : ∀ p ∈ cuts Tryz.prog (lkΓ [(4, tendrillaw16_live_S), (5, tendrilref07_Few_S), (6, tendrilref02_Copy_S), (7, ask_Do_S), (8, tendrilref16_Do_S), (9, tendrilref07_Same_S), (10, tendrilref16_SameTouches_S)]) Tryz.f3.ntmps [] (bodyOf Tryz.f3) (κ0 Tryz.prog Tryz.f3 false [⟨false, .bool⟩]), CutOk (fun _ _ _ _ => none) p := cutsNil (by kernel_rfl)
set_option maxRecDepth 5000000 in
theorem ask_Waits_run (x : Tup [⟨true, (.pair (.sl .int) (.pair (.sl .int) (.pair (.pair (.pair (.sl .int) (.pair (.sl .int) (.pair (.sl .int) (.sl .int)))) (.pair (.pair (.sl .int) (.pair (.sl .int) (.pair (.sl .int) (.sl .int)))) (.pair (.sl .int) (.pair (.sl .int) (.pair (.sl .int) (.sl .int)))))) (.pair .int (.sl .int)))))⟩, ⟨true, (.pair .int (.pair .int (.pair .int (.pair .int (.pair .int .int)))))⟩]) : (pxFn Tryz.prog (lkΓ [(30, ask_has_S), (31, latch_Held_S)]) [] Tryz.f13 (bodyOf Tryz.f13) false [⟨false, .bool⟩] (encTup [⟨true, (.pair (.sl .int) (.pair (.sl .int) (.pair (.pair (.pair (.sl .int) (.pair (.sl .int) (.pair (.sl .int) (.sl .int)))) (.pair (.pair (.sl .int) (.pair (.sl .int) (.pair (.sl .int) (.sl .int)))) (.pair (.sl .int) (.pair (.sl .int) (.pair (.sl .int) (.sl .int)))))) (.pair .int (.sl .int)))))⟩, ⟨true, (.pair .int (.pair .int (.pair .int (.pair .int (.pair .int .int)))))⟩] x)).run (fun _ _ _ => none) = ask_Waits x := by kernel_rfl
theorem ask_Waits_cuts : ∀ p ∈ cuts Tryz.prog (lkΓ [(30, ask_has_S), (31, latch_Held_S)]) Tryz.f13.ntmps [] (bodyOf Tryz.f13) (κ0 Tryz.prog Tryz.f13 false [⟨false, .bool⟩]), CutOk (fun _ _ _ _ => none) p := cutsNil (by kernel_rfl)
set_option maxRecDepth 5000000 in
theorem tendrilref14_at_run (x : Tup [⟨true, (.pair .int (.pair .int (.pair .int (.pair .int .int))))⟩, ⟨false, (.sl .int)⟩, ⟨false, .int⟩, ⟨false, .int⟩, ⟨false, .int⟩]) : (pxFn Tryz.prog (lkΓ [(23, tendrilref01_Unpack_S), (51, tendrilref03_Check_S), (53, tendrilref03_Size_S), (108, tendrilref03_Field_S)]) [] Tryz.f91 (bodyOf Tryz.f91) false [⟨false, .int⟩, ⟨false, .int⟩] (encTup [⟨true, (.pair .int (.pair .int (.pair .int (.pair .int .int))))⟩, ⟨false, (.sl .int)⟩, ⟨false, .int⟩, ⟨false, .int⟩, ⟨false, .int⟩] x)).run (fun _ _ _ => none) = tendrilref14_at x := by kernel_rfl
theorem tendrilref14_at_cuts : ∀ p ∈ cuts Tryz.prog (lkΓ [(23, tendrilref01_Unpack_S), (51, tendrilref03_Check_S), (53, tendrilref03_Size_S), (108, tendrilref03_Field_S)]) Tryz.f91.ntmps [] (bodyOf Tryz.f91) (κ0 Tryz.prog Tryz.f91 false [⟨false, .int⟩, ⟨false, .int⟩]), CutOk (fun _ _ _ _ => none) p := cutsNil (by kernel_rfl)
set_option maxRecDepth 5000000 in
theorem chain_Put_run (x : Tup [⟨true, (.pair .int (.pair .int (.pair .int (.pair .int .int))))⟩, ⟨false, (.sl .int)⟩, ⟨false, .int⟩, ⟨false, .int⟩, ⟨false, .int⟩, ⟨false, .int⟩]) : (pxFn Tryz.prog (lkΓ [(41, mem_Store_S), (76, chain_where_S)]) [] Tryz.f40 (bodyOf Tryz.f40) true [⟨false, (.sl .int)⟩, ⟨false, .int⟩] (encTup [⟨true, (.pair .int (.pair .int (.pair .int (.pair .int .int))))⟩, ⟨false, (.sl .int)⟩, ⟨false, .int⟩, ⟨false, .int⟩, ⟨false, .int⟩, ⟨false, .int⟩] x)).run (fun _ _ _ => none) = chain_Put x := by kernel_rfl
theorem chain_Put_cuts : ∀ p ∈ cuts Tryz.prog (lkΓ [(41, mem_Store_S), (76, chain_where_S)]) Tryz.f40.ntmps [] (bodyOf Tryz.f40) (κ0 Tryz.prog Tryz.f40 true [⟨false, (.sl .int)⟩, ⟨false, .int⟩]), CutOk (fun _ _ _ _ => none) p := cutsNil (by kernel_rfl)
set_option maxRecDepth 5000000 in
theorem era_Turn_run (x : Tup [⟨true, (.pair .int (.sl .int))⟩]) : (pxFn Tryz.prog (lkΓ [(73, era_Check_S), (78, slices_Clone_S), (114000035, slices_ContainsFunc_era_Turn_1_S)]) [] Tryz.f100 (bodyOf Tryz.f100) true [⟨true, (.pair .int (.sl .int))⟩, ⟨false, .bool⟩] (encTup [⟨true, (.pair .int (.sl .int))⟩] x)).run (fun _ _ _ => none) = era_Turn x := by kernel_rfl
theorem era_Turn_cuts : ∀ p ∈ cuts Tryz.prog (lkΓ [(73, era_Check_S), (78, slices_Clone_S), (114000035, slices_ContainsFunc_era_Turn_1_S)]) Tryz.f100.ntmps [] (bodyOf Tryz.f100) (κ0 Tryz.prog Tryz.f100 true [⟨true, (.pair .int (.sl .int))⟩, ⟨false, .bool⟩]), CutOk (fun _ _ _ _ => none) p := cutsNil (by kernel_rfl)
set_option maxRecDepth 5000000 in
theorem slices_ContainsFunc_shape_Check_1_run (x : Tup [⟨false, (.sl .int)⟩, ⟨false, (.fn 36)⟩]) : (pxFn Tryz.prog (lkΓ [(37000075, slices_IndexFunc_shape_Check_1_S)]) [] Tryz.f35 (bodyOf Tryz.f35) false [⟨false, .bool⟩] (encTup [⟨false, (.sl .int)⟩, ⟨false, (.fn 36)⟩] x)).run (fun _ _ _ => none) = slices_ContainsFunc_shape_Check_1 x := by kernel_rfl
theorem slices_ContainsFunc_shape_Check_1_cuts : ∀ p ∈ cuts Tryz.prog (lkΓ [(37000075, slices_IndexFunc_shape_Check_1_S)]) Tryz.f35.ntmps [] (bodyOf Tryz.f35) (κ0 Tryz.prog Tryz.f35 false [⟨false, .bool⟩]), CutOk (fun _ _ _ _ => none) p := cutsNil (by kernel_rfl)
set_option maxRecDepth 5000000 in
theorem tendrilref06_Same_run (x : Tup [⟨true, (.pair .int (.sl .int))⟩, ⟨true, (.pair .int (.sl .int))⟩]) : (pxFn Tryz.prog (lkΓ [(27, tendrilref02_Same_S)]) [] Tryz.f26 (bodyOf Tryz.f26) false [⟨false, .bool⟩] (encTup [⟨true, (.pair .int (.sl .int))⟩, ⟨true, (.pair .int (.sl .int))⟩] x)).run (fun _ _ _ => none) = tendrilref06_Same x := by kernel_rfl
theorem tendrilref06_Same_cuts : ∀ p ∈ cuts Tryz.prog (lkΓ [(27, tendrilref02_Same_S)]) Tryz.f26.ntmps [] (bodyOf Tryz.f26) (κ0 Tryz.prog Tryz.f26 false [⟨false, .bool⟩]), CutOk (fun _ _ _ _ => none) p := cutsNil (by kernel_rfl)
set_option maxRecDepth 5000000 in
theorem era_pinned_run (x : Tup [⟨true, (.pair .int (.sl .int))⟩, ⟨false, .int⟩]) : (pxFn Tryz.prog (lkΓ [(73, era_Check_S)]) [] Tryz.f98 (bodyOf Tryz.f98) false [⟨false, .int⟩, ⟨false, .int⟩] (encTup [⟨true, (.pair .int (.sl .int))⟩, ⟨false, .int⟩] x)).run (fun _ _ _ => none) = era_pinned x := by kernel_rfl
theorem era_pinned_cuts : ∀ p ∈ cuts Tryz.prog (lkΓ [(73, era_Check_S)]) Tryz.f98.ntmps [] (bodyOf Tryz.f98) (κ0 Tryz.prog Tryz.f98 false [⟨false, .int⟩, ⟨false, .int⟩]), CutOk (fun _ _ _ _ => none) p := cutsNil (by kernel_rfl)
set_option maxRecDepth 5000000 in
theorem tendrilref08_Free_run (x : Tup [⟨false, .int⟩]) : (pxFn Tryz.prog (lkΓ [(87, tendrilref08_Check_S)]) [] Tryz.f65 (bodyOf Tryz.f65) false [⟨false, .int⟩, ⟨false, .int⟩] (encTup [⟨false, .int⟩] x)).run (fun _ _ _ => none) = tendrilref08_Free x := by kernel_rfl
theorem tendrilref08_Free_cuts : ∀ p ∈ cuts Tryz.prog (lkΓ [(87, tendrilref08_Check_S)]) Tryz.f65.ntmps [] (bodyOf Tryz.f65) (κ0 Tryz.prog Tryz.f65 false [⟨false, .int⟩, ⟨false, .int⟩]), CutOk (fun _ _ _ _ => none) p := cutsNil (by kernel_rfl)
set_option maxRecDepth 5000000 in
theorem era_Check_1_run (x : Tup [⟨false, .int⟩, ⟨false, (.ref (.pair .int (.sl .int)))⟩]) : (pxFn Tryz.prog (lkΓ []) [] Tryz.f96 (bodyOf Tryz.f96) false [⟨false, .bool⟩] (encTup [⟨false, .int⟩, ⟨false, (.ref (.pair .int (.sl .int)))⟩] x)).run (fun _ _ _ => none) = era_Check_1 x := by kernel_rfl
theorem era_Check_1_cuts : ∀ p ∈ cuts Tryz.prog (lkΓ []) Tryz.f96.ntmps [] (bodyOf Tryz.f96) (κ0 Tryz.prog Tryz.f96 false [⟨false, .bool⟩]), CutOk (fun _ _ _ _ => none) p := cutsNil (by kernel_rfl)
set_option maxRecDepth 5000000 in
theorem shape_Check_1_run (x : Tup [⟨false, .int⟩]) : (pxFn Tryz.prog (lkΓ [(37, latch_Check_S)]) [] Tryz.f36 (bodyOf Tryz.f36) false [⟨false, .bool⟩] (encTup [⟨false, .int⟩] x)).run (fun _ _ _ => none) = shape_Check_1 x := by kernel_rfl
theorem shape_Check_1_cuts : ∀ p ∈ cuts Tryz.prog (lkΓ [(37, latch_Check_S)]) Tryz.f36.ntmps [] (bodyOf Tryz.f36) (κ0 Tryz.prog Tryz.f36 false [⟨false, .bool⟩]), CutOk (fun _ _ _ _ => none) p := cutsNil (by kernel_rfl)
set_option maxRecDepth 5000000 in
theorem latch_Check_run (x : Tup [⟨false, .int⟩]) : (pxFn Tryz.prog (lkΓ []) [] Tryz.f37 (bodyOf Tryz.f37) false [⟨false, .int⟩] (encTup [⟨false, .int⟩] x)).run (fun _ _ _ => none) = latch_Check x := by kernel_rfl
theorem latch_Check_cuts : ∀ p ∈ cuts Tryz.prog (lkΓ []) Tryz.f37.ntmps [] (bodyOf Tryz.f37) (κ0 Tryz.prog Tryz.f37 false [⟨false, .int⟩]), CutOk (fun _ _ _ _ => none) p := cutsNil (by kernel_rfl)
end Go.Proofs.YtcoiboghdmmdcadGreatFn
