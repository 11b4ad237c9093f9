/- What the interpreter of code computes of these functions, part 1; no condition. -/
import Derived.Test.YtcoiboghdmmdcacProg
import Derived.KernelRfl
import Derived.Test.YtcoiboghdmmdcacPx25
import Derived.Test.YtcoiboghdmmdcacFnsD
set_option linter.unusedVariables false
set_option linter.unusedSimpArgs false
namespace Go.Proofs.YtcoiboghdmmdcacFn
open Go Go.RowKit Go.Proofs.YtcoiboghdmmdcacPx
set_option maxHeartbeats 0 in
set_option maxRecDepth 5000000 in
def tendrilref07_Turn_P14v0 (k : Nat) (vs : List SV) (bs : List Blk) : Option (Option ((List Int × List Int × ((List Int × List Int × List Int × List Int) × (List Int × List Int × List Int × List Int) × List Int × List Int × List Int × List Int) × Int × List Int) × Bool)) := match vs, bs with
  | [.val (.one (.ptr 0 0)), .val (.one (.ptr 1 0)), .val (.one (.ptr 2 0)), .val (.one (.bool p0)), .val (.one (.int .i64 p1))], [.box [(.sl .int p2), (.sl .int p3), (.sl .int p4), (.sl .int p5), (.sl .int p6), (.sl .int p7), (.sl .int p8), (.sl .int p9), (.sl .int p10), (.sl .int p11), (.sl .int p12), (.sl .int p13), (.sl .int p14), (.sl .int p15), (.int .i64 p16), (.row 3)], .box [.nil, .nil, .nil, .nil, .nil, .nil, .nil, .nil, .nil, .nil, .nil, .nil, .nil, .nil, (.int .i64 p17), .nil], .box [(.int .i64 p18), (.row 3)], .row .int p19] => some (tendrilref07_Turn_L14 k p0 p1 p2 p3 p4 p5 p6 p7 p8 p9 p10 p11 p12 p13 p14 p15 p16 p17 p18 p19)
  | _, _ => none
set_option maxHeartbeats 0 in
set_option maxRecDepth 5000000 in
def tendrilref07_Turn_P14v1 (k : Nat) (vs : List SV) (bs : List Blk) : Option (Option ((List Int × List Int × ((List Int × List Int × List Int × List Int) × (List Int × List Int × List Int × List Int) × List Int × List Int × List Int × List Int) × Int × List Int) × Bool)) := match vs, bs with
  | [.val (.one (.ptr 0 0)), .val (.one (.ptr 1 0)), .val (.one (.ptr 2 0)), .val (.one (.bool p0)), .val (.one (.int .i64 p1))], [.box [(.sl .int p2), (.sl .int p3), (.sl .int p4), (.sl .int p5), (.sl .int p6), (.sl .int p7), (.sl .int p8), (.sl .int p9), (.sl .int p10), (.sl .int p11), (.row 3), (.row 4), (.row 5), (.row 6), (.int .i64 p12), (.row 7)], .box [.nil, .nil, .nil, .nil, .nil, .nil, .nil, .nil, .nil, .nil, .nil, .nil, .nil, .nil, (.int .i64 p13), .nil], .box [(.int .i64 p14), (.row 7)], .row .int p15, .row .int p16, .row .int p17, .row .int p18, .row .int p19] => some (tendrilref07_Turn_L14x1 k p0 p1 p2 p3 p4 p5 p6 p7 p8 p9 p10 p11 p12 p13 p14 p15 p16 p17 p18 p19)
  | _, _ => none
set_option maxHeartbeats 0 in
set_option maxRecDepth 5000000 in
def tendrilref07_Turn_P14v2 (k : Nat) (vs : List SV) (bs : List Blk) : Option (Option ((List Int × List Int × ((List Int × List Int × List Int × List Int) × (List Int × List Int × List Int × List Int) × List Int × List Int × List Int × List Int) × Int × List Int) × Bool)) := match vs, bs with
  | [.val (.one (.ptr 0 0)), .val (.one (.ptr 1 0)), .val (.one (.ptr 2 0)), .val (.one (.bool p0)), .val (.one (.int .i64 p1))], [.box [(.sl .int p2), (.sl .int p3), (.sl .int p4), (.sl .int p5), (.sl .int p6), (.sl .int p7), (.row 3), (.row 4), (.row 5), (.row 6), (.sl .int p8), (.sl .int p9), (.sl .int p10), (.sl .int p11), (.int .i64 p12), (.row 7)], .box [.nil, .nil, .nil, .nil, .nil, .nil, .nil, .nil, .nil, .nil, .nil, .nil, .nil, .nil, (.int .i64 p13), .nil], .box [(.int .i64 p14), (.row 7)], .row .int p15, .row .int p16, .row .int p17, .row .int p18, .row .int p19] => some (tendrilref07_Turn_L14x2 k p0 p1 p2 p3 p4 p5 p6 p7 p8 p9 p10 p11 p12 p13 p14 p15 p16 p17 p18 p19)
  | _, _ => none
set_option maxHeartbeats 0 in
set_option maxRecDepth 5000000 in
def tendrilref07_Turn_P14v3 (k : Nat) (vs : List SV) (bs : List Blk) : Option (Option ((List Int × List Int × ((List Int × List Int × List Int × List Int) × (List Int × List Int × List Int × List Int) × List Int × List Int × List Int × List Int) × Int × List Int) × Bool)) := match vs, bs with
  | [.val (.one (.ptr 0 0)), .val (.one (.ptr 1 0)), .val (.one (.ptr 2 0)), .val (.one (.bool p0)), .val (.one (.int .i64 p1))], [.box [(.sl .int p2), (.sl .int p3), (.row 3), (.row 4), (.row 5), (.row 6), (.sl .int p4), (.sl .int p5), (.sl .int p6), (.sl .int p7), (.sl .int p8), (.sl .int p9), (.sl .int p10), (.sl .int p11), (.int .i64 p12), (.row 7)], .box [.nil, .nil, .nil, .nil, .nil, .nil, .nil, .nil, .nil, .nil, .nil, .nil, .nil, .nil, (.int .i64 p13), .nil], .box [(.int .i64 p14), (.row 7)], .row .int p15, .row .int p16, .row .int p17, .row .int p18, .row .int p19] => some (tendrilref07_Turn_L14x3 k p0 p1 p2 p3 p4 p5 p6 p7 p8 p9 p10 p11 p12 p13 p14 p15 p16 p17 p18 p19)
  | _, _ => none
set_option maxHeartbeats 0 in
set_option maxRecDepth 5000000 in
def tendrilref07_Turn_P14v4 (k : Nat) (vs : List SV) (bs : List Blk) : Option (Option ((List Int × List Int × ((List Int × List Int × List Int × List Int) × (List Int × List Int × List Int × List Int) × List Int × List Int × List Int × List Int) × Int × List Int) × Bool)) := match vs, bs with
  | [.val (.one (.ptr 0 0)), .val (.one (.ptr 1 0)), .val (.one (.ptr 2 0)), .val (.one (.bool p0)), .val (.one (.int .i64 p1))], [.box [(.sl .int p2), (.sl .int p3), (.sl .int p4), (.sl .int p5), (.sl .int p6), (.sl .int p7), (.row 3), (.row 4), (.row 5), (.row 6), (.row 7), (.row 8), (.row 9), (.row 10), (.int .i64 p8), (.row 11)], .box [.nil, .nil, .nil, .nil, .nil, .nil, .nil, .nil, .nil, .nil, .nil, .nil, .nil, .nil, (.int .i64 p9), .nil], .box [(.int .i64 p10), (.row 11)], .row .int p11, .row .int p12, .row .int p13, .row .int p14, .row .int p15, .row .int p16, .row .int p17, .row .int p18, .row .int p19] => some (tendrilref07_Turn_L14x4 k p0 p1 p2 p3 p4 p5 p6 p7 p8 p9 p10 p11 p12 p13 p14 p15 p16 p17 p18 p19)
  | _, _ => none
set_option maxHeartbeats 0 in
set_option maxRecDepth 5000000 in
def tendrilref07_Turn_P14v5 (k : Nat) (vs : List SV) (bs : List Blk) : Option (Option ((List Int × List Int × ((List Int × List Int × List Int × List Int) × (List Int × List Int × List Int × List Int) × List Int × List Int × List Int × List Int) × Int × List Int) × Bool)) := match vs, bs with
  | [.val (.one (.ptr 0 0)), .val (.one (.ptr 1 0)), .val (.one (.ptr 2 0)), .val (.one (.bool p0)), .val (.one (.int .i64 p1))], [.box [(.sl .int p2), (.sl .int p3), (.row 3), (.row 4), (.row 5), (.row 6), (.sl .int p4), (.sl .int p5), (.sl .int p6), (.sl .int p7), (.row 7), (.row 8), (.row 9), (.row 10), (.int .i64 p8), (.row 11)], .box [.nil, .nil, .nil, .nil, .nil, .nil, .nil, .nil, .nil, .nil, .nil, .nil, .nil, .nil, (.int .i64 p9), .nil], .box [(.int .i64 p10), (.row 11)], .row .int p11, .row .int p12, .row .int p13, .row .int p14, .row .int p15, .row .int p16, .row .int p17, .row .int p18, .row .int p19] => some (tendrilref07_Turn_L14x5 k p0 p1 p2 p3 p4 p5 p6 p7 p8 p9 p10 p11 p12 p13 p14 p15 p16 p17 p18 p19)
  | _, _ => none
set_option maxHeartbeats 0 in
set_option maxRecDepth 5000000 in
def tendrilref07_Turn_P14v6 (k : Nat) (vs : List SV) (bs : List Blk) : Option (Option ((List Int × List Int × ((List Int × List Int × List Int × List Int) × (List Int × List Int × List Int × List Int) × List Int × List Int × List Int × List Int) × Int × List Int) × Bool)) := match vs, bs with
  | [.val (.one (.ptr 0 0)), .val (.one (.ptr 1 0)), .val (.one (.ptr 2 0)), .val (.one (.bool p0)), .val (.one (.int .i64 p1))], [.box [(.sl .int p2), (.sl .int p3), (.row 3), (.row 4), (.row 5), (.row 6), (.row 7), (.row 8), (.row 9), (.row 10), (.sl .int p4), (.sl .int p5), (.sl .int p6), (.sl .int p7), (.int .i64 p8), (.row 11)], .box [.nil, .nil, .nil, .nil, .nil, .nil, .nil, .nil, .nil, .nil, .nil, .nil, .nil, .nil, (.int .i64 p9), .nil], .box [(.int .i64 p10), (.row 11)], .row .int p11, .row .int p12, .row .int p13, .row .int p14, .row .int p15, .row .int p16, .row .int p17, .row .int p18, .row .int p19] => some (tendrilref07_Turn_L14x6 k p0 p1 p2 p3 p4 p5 p6 p7 p8 p9 p10 p11 p12 p13 p14 p15 p16 p17 p18 p19)
  | _, _ => none
set_option maxHeartbeats 0 in
set_option maxRecDepth 5000000 in
def tendrilref07_Turn_P14v7 (k : Nat) (vs : List SV) (bs : List Blk) : Option (Option ((List Int × List Int × ((List Int × List Int × List Int × List Int) × (List Int × List Int × List Int × List Int) × List Int × List Int × List Int × List Int) × Int × List Int) × Bool)) := match vs, bs with
  | [.val (.one (.ptr 0 0)), .val (.one (.ptr 1 0)), .val (.one (.ptr 2 0)), .val (.one (.bool p0)), .val (.one (.int .i64 p1))], [.box [(.sl .int p2), (.sl .int p3), (.row 3), (.row 4), (.row 5), (.row 6), (.row 7), (.row 8), (.row 9), (.row 10), (.row 11), (.row 12), (.row 13), (.row 14), (.int .i64 p4), (.row 15)], .box [.nil, .nil, .nil, .nil, .nil, .nil, .nil, .nil, .nil, .nil, .nil, .nil, .nil, .nil, (.int .i64 p5), .nil], .box [(.int .i64 p6), (.row 15)], .row .int p7, .row .int p8, .row .int p9, .row .int p10, .row .int p11, .row .int p12, .row .int p13, .row .int p14, .row .int p15, .row .int p16, .row .int p17, .row .int p18, .row .int p19] => some (tendrilref07_Turn_L14x7 k p0 p1 p2 p3 p4 p5 p6 p7 p8 p9 p10 p11 p12 p13 p14 p15 p16 p17 p18 p19)
  | _, _ => none
def tendrilref07_Turn_P14 (k : Nat) (vs : List SV) (bs : List Blk) : Option ((List Int × List Int × ((List Int × List Int × List Int × List Int) × (List Int × List Int × List Int × List Int) × List Int × List Int × List Int × List Int) × Int × List Int) × Bool) := match tendrilref07_Turn_P14v0 k vs bs with | some r => r | none => match tendrilref07_Turn_P14v1 k vs bs with | some r => r | none => match tendrilref07_Turn_P14v2 k vs bs with | some r => r | none => match tendrilref07_Turn_P14v3 k vs bs with | some r => r | none => match tendrilref07_Turn_P14v4 k vs bs with | some r => r | none => match tendrilref07_Turn_P14v5 k vs bs with | some r => r | none => match tendrilref07_Turn_P14v6 k vs bs with | some r => r | none => match tendrilref07_Turn_P14v7 k vs bs with | some r => r | none => none
def tendrilref07_Turn_Λ (k L : Nat) (vs : List SV) (bs : List Blk) : Option ((List Int × List Int × ((List Int × List Int × List Int × List Int) × (List Int × List Int × List Int × List Int) × List Int × List Int × List Int × List Int) × Int × List Int) × Bool) := match Nat.beq L 14 with | true => tendrilref07_Turn_P14 k vs bs | false => none
noncomputable def tendrilref07_Turn_C : List (Cut (Tup [⟨true, (.pair (.sl .int) (.pair (.sl .int) (.pair (.pair (.pair (.sl .int) (.pair (.sl .int) (.pair (.sl .int) (.sl .int)))) (.pair (.pair (.sl .int) (.pair (.sl .int) (.pair (.sl .int) (.sl .int)))) (.pair (.sl .int) (.pair (.sl .int) (.pair (.sl .int) (.sl .int)))))) (.pair .int (.sl .int)))))⟩, ⟨false, .bool⟩])) := cuts Try.prog (lkΓ [(15, tendrilref07_Check_S), (58, tendrilref06_Turn_S), (59, tendrilref05_Reclaim_S), (60, tendrilref06_Safe_S)]) Try.f28.ntmps [(14, [1, 2, 4, 5, 19])] (bodyOf Try.f28) (κ0 Try.prog Try.f28 false [⟨true, (.pair (.sl .int) (.pair (.sl .int) (.pair (.pair (.pair (.sl .int) (.pair (.sl .int) (.pair (.sl .int) (.sl .int)))) (.pair (.pair (.sl .int) (.pair (.sl .int) (.pair (.sl .int) (.sl .int)))) (.pair (.sl .int) (.pair (.sl .int) (.pair (.sl .int) (.sl .int)))))) (.pair .int (.sl .int)))))⟩, ⟨false, .bool⟩])
set_option maxRecDepth 5000000 in
theorem tendrilref07_Turn_c14 (k : Nat) (p0 : Bool) (p1 : Int) (p2 : List Int) (p3 : List Int) (p4 : List Int) (p5 : List Int) (p6 : List Int) (p7 : List Int) (p8 : List Int) (p9 : List Int) (p10 : List Int) (p11 : List Int) (p12 : List Int) (p13 : List Int) (p14 : List Int) (p15 : List Int) (p16 : Int) (p17 : Int) (p18 : Int) (p19 : List Int) : ((nthC tendrilref07_Turn_C 0).g (mkSt [1, 2, 4, 5, 19] [.val (.one (.ptr 0 0)), .val (.one (.ptr 1 0)), .val (.one (.ptr 2 0)), .val (.one (.bool p0)), .val (.one (.int .i64 p1))] [.box [(.sl .int p2), (.sl .int p3), (.sl .int p4), (.sl .int p5), (.sl .int p6), (.sl .int p7), (.sl .int p8), (.sl .int p9), (.sl .int p10), (.sl .int p11), (.sl .int p12), (.sl .int p13), (.sl .int p14), (.sl .int p15), (.int .i64 p16), (.row 3)], .box [.nil, .nil, .nil, .nil, .nil, .nil, .nil, .nil, .nil, .nil, .nil, .nil, .nil, .nil, (.int .i64 p17), .nil], .box [(.int .i64 p18), (.row 3)], .row .int p19])).run (tendrilref07_Turn_Λ k) = tendrilref07_Turn_L14 (k + 1) p0 p1 p2 p3 p4 p5 p6 p7 p8 p9 p10 p11 p12 p13 p14 p15 p16 p17 p18 p19 := by kernel_rfl
set_option maxHeartbeats 0 in
set_option maxRecDepth 5000000 in
theorem tendrilref07_Turn_e14 (k : Nat) (vs : List SV) (bs : List Blk) (r : ((List Int) × ((List Int) × ((((List Int) × ((List Int) × ((List Int) × (List Int)))) × (((List Int) × ((List Int) × ((List Int) × (List Int)))) × ((List Int) × ((List Int) × ((List Int) × (List Int)))))) × (Int × (List Int))))) × Bool) (h : tendrilref07_Turn_P14v0 (k + 1) vs bs = some (some r)) : ((nthC tendrilref07_Turn_C 0).g (mkSt [1, 2, 4, 5, 19] vs bs)).run (tendrilref07_Turn_Λ k) = some r := by
  unfold tendrilref07_Turn_P14v0 at h
  split at h
  · exact (tendrilref07_Turn_c14 k _ _ _ _ _ _ _ _ _ _ _ _ _ _ _ _ _ _ _ _).trans (Option.some.inj h)
  · cases h
set_option maxRecDepth 5000000 in
theorem tendrilref07_Turn_c14x1 (k : Nat) (p0 : Bool) (p1 : Int) (p2 : List Int) (p3 : List Int) (p4 : List Int) (p5 : List Int) (p6 : List Int) (p7 : List Int) (p8 : List Int) (p9 : List Int) (p10 : List Int) (p11 : List Int) (p12 : Int) (p13 : Int) (p14 : Int) (p15 : List Int) (p16 : List Int) (p17 : List Int) (p18 : List Int) (p19 : List Int) : ((nthC tendrilref07_Turn_C 0).g (mkSt [1, 2, 4, 5, 19] [.val (.one (.ptr 0 0)), .val (.one (.ptr 1 0)), .val (.one (.ptr 2 0)), .val (.one (.bool p0)), .val (.one (.int .i64 p1))] [.box [(.sl .int p2), (.sl .int p3), (.sl .int p4), (.sl .int p5), (.sl .int p6), (.sl .int p7), (.sl .int p8), (.sl .int p9), (.sl .int p10), (.sl .int p11), (.row 3), (.row 4), (.row 5), (.row 6), (.int .i64 p12), (.row 7)], .box [.nil, .nil, .nil, .nil, .nil, .nil, .nil, .nil, .nil, .nil, .nil, .nil, .nil, .nil, (.int .i64 p13), .nil], .box [(.int .i64 p14), (.row 7)], .row .int p15, .row .int p16, .row .int p17, .row .int p18, .row .int p19])).run (tendrilref07_Turn_Λ k) = tendrilref07_Turn_L14x1 (k + 1) p0 p1 p2 p3 p4 p5 p6 p7 p8 p9 p10 p11 p12 p13 p14 p15 p16 p17 p18 p19 := by kernel_rfl
set_option maxHeartbeats 0 in
set_option maxRecDepth 5000000 in
theorem tendrilref07_Turn_e14x1 (k : Nat) (vs : List SV) (bs : List Blk) (r : ((List Int) × ((List Int) × ((((List Int) × ((List Int) × ((List Int) × (List Int)))) × (((List Int) × ((List Int) × ((List Int) × (List Int)))) × ((List Int) × ((List Int) × ((List Int) × (List Int)))))) × (Int × (List Int))))) × Bool) (h : tendrilref07_Turn_P14v1 (k + 1) vs bs = some (some r)) : ((nthC tendrilref07_Turn_C 0).g (mkSt [1, 2, 4, 5, 19] vs bs)).run (tendrilref07_Turn_Λ k) = some r := by
  unfold tendrilref07_Turn_P14v1 at h
  split at h
  · exact (tendrilref07_Turn_c14x1 k _ _ _ _ _ _ _ _ _ _ _ _ _ _ _ _ _ _ _ _).trans (Option.some.inj h)
  · cases h
set_option maxRecDepth 5000000 in
theorem tendrilref07_Turn_c14x2 (k : Nat) (p0 : Bool) (p1 : Int) (p2 : List Int) (p3 : List Int) (p4 : List Int) (p5 : List Int) (p6 : List Int) (p7 : List Int) (p8 : List Int) (p9 : List Int) (p10 : List Int) (p11 : List Int) (p12 : Int) (p13 : Int) (p14 : Int) (p15 : List Int) (p16 : List Int) (p17 : List Int) (p18 : List Int) (p19 : List Int) : ((nthC tendrilref07_Turn_C 0).g (mkSt [1, 2, 4, 5, 19] [.val (.one (.ptr 0 0)), .val (.one (.ptr 1 0)), .val (.one (.ptr 2 0)), .val (.one (.bool p0)), .val (.one (.int .i64 p1))] [.box [(.sl .int p2), (.sl .int p3), (.sl .int p4), (.sl .int p5), (.sl .int p6), (.sl .int p7), (.row 3), (.row 4), (.row 5), (.row 6), (.sl .int p8), (.sl .int p9), (.sl .int p10), (.sl .int p11), (.int .i64 p12), (.row 7)], .box [.nil, .nil, .nil, .nil, .nil, .nil, .nil, .nil, .nil, .nil, .nil, .nil, .nil, .nil, (.int .i64 p13), .nil], .box [(.int .i64 p14), (.row 7)], .row .int p15, .row .int p16, .row .int p17, .row .int p18, .row .int p19])).run (tendrilref07_Turn_Λ k) = tendrilref07_Turn_L14x2 (k + 1) p0 p1 p2 p3 p4 p5 p6 p7 p8 p9 p10 p11 p12 p13 p14 p15 p16 p17 p18 p19 := by kernel_rfl
set_option maxHeartbeats 0 in
set_option maxRecDepth 5000000 in
theorem tendrilref07_Turn_e14x2 (k : Nat) (vs : List SV) (bs : List Blk) (r : ((List Int) × ((List Int) × ((((List Int) × ((List Int) × ((List Int) × (List Int)))) × (((List Int) × ((List Int) × ((List Int) × (List Int)))) × ((List Int) × ((List Int) × ((List Int) × (List Int)))))) × (Int × (List Int))))) × Bool) (h : tendrilref07_Turn_P14v2 (k + 1) vs bs = some (some r)) : ((nthC tendrilref07_Turn_C 0).g (mkSt [1, 2, 4, 5, 19] vs bs)).run (tendrilref07_Turn_Λ k) = some r := by
  unfold tendrilref07_Turn_P14v2 at h
  split at h
  · exact (tendrilref07_Turn_c14x2 k _ _ _ _ _ _ _ _ _ _ _ _ _ _ _ _ _ _ _ _).trans (Option.some.inj h)
  · cases h
set_option maxRecDepth 5000000 in
theorem tendrilref07_Turn_c14x3 (k : Nat) (p0 : Bool) (p1 : Int) (p2 : List Int) (p3 : List Int) (p4 : List Int) (p5 : List Int) (p6 : List Int) (p7 : List Int) (p8 : List Int) (p9 : List Int) (p10 : List Int) (p11 : List Int) (p12 : Int) (p13 : Int) (p14 : Int) (p15 : List Int) (p16 : List Int) (p17 : List Int) (p18 : List Int) (p19 : List Int) : ((nthC tendrilref07_Turn_C 0).g (mkSt [1, 2, 4, 5, 19] [.val (.one (.ptr 0 0)), .val (.one (.ptr 1 0)), .val (.one (.ptr 2 0)), .val (.one (.bool p0)), .val (.one (.int .i64 p1))] [.box [(.sl .int p2), (.sl .int p3), (.row 3), (.row 4), (.row 5), (.row 6), (.sl .int p4), (.sl .int p5), (.sl .int p6), (.sl .int p7), (.sl .int p8), (.sl .int p9), (.sl .int p10), (.sl .int p11), (.int .i64 p12), (.row 7)], .box [.nil, .nil, .nil, .nil, .nil, .nil, .nil, .nil, .nil, .nil, .nil, .nil, .nil, .nil, (.int .i64 p13), .nil], .box [(.int .i64 p14), (.row 7)], .row .int p15, .row .int p16, .row .int p17, .row .int p18, .row .int p19])).run (tendrilref07_Turn_Λ k) = tendrilref07_Turn_L14x3 (k + 1) p0 p1 p2 p3 p4 p5 p6 p7 p8 p9 p10 p11 p12 p13 p14 p15 p16 p17 p18 p19 := by kernel_rfl
set_option maxHeartbeats 0 in
set_option maxRecDepth 5000000 in
theorem tendrilref07_Turn_e14x3 (k : Nat) (vs : List SV) (bs : List Blk) (r : ((List Int) × ((List Int) × ((((List Int) × ((List Int) × ((List Int) × (List Int)))) × (((List Int) × ((List Int) × ((List Int) × (List Int)))) × ((List Int) × ((List Int) × ((List Int) × (List Int)))))) × (Int × (List Int))))) × Bool) (h : tendrilref07_Turn_P14v3 (k + 1) vs bs = some (some r)) : ((nthC tendrilref07_Turn_C 0).g (mkSt [1, 2, 4, 5, 19] vs bs)).run (tendrilref07_Turn_Λ k) = some r := by
  unfold tendrilref07_Turn_P14v3 at h
  split at h
  · exact (tendrilref07_Turn_c14x3 k _ _ _ _ _ _ _ _ _ _ _ _ _ _ _ _ _ _ _ _).trans (Option.some.inj h)
  · cases h
set_option maxRecDepth 5000000 in
theorem tendrilref07_Turn_c14x4 (k : Nat) (p0 : Bool) (p1 : Int) (p2 : List Int) (p3 : List Int) (p4 : List Int) (p5 : List Int) (p6 : List Int) (p7 : List Int) (p8 : Int) (p9 : Int) (p10 : Int) (p11 : List Int) (p12 : List Int) (p13 : List Int) (p14 : List Int) (p15 : List Int) (p16 : List Int) (p17 : List Int) (p18 : List Int) (p19 : List Int) : ((nthC tendrilref07_Turn_C 0).g (mkSt [1, 2, 4, 5, 19] [.val (.one (.ptr 0 0)), .val (.one (.ptr 1 0)), .val (.one (.ptr 2 0)), .val (.one (.bool p0)), .val (.one (.int .i64 p1))] [.box [(.sl .int p2), (.sl .int p3), (.sl .int p4), (.sl .int p5), (.sl .int p6), (.sl .int p7), (.row 3), (.row 4), (.row 5), (.row 6), (.row 7), (.row 8), (.row 9), (.row 10), (.int .i64 p8), (.row 11)], .box [.nil, .nil, .nil, .nil, .nil, .nil, .nil, .nil, .nil, .nil, .nil, .nil, .nil, .nil, (.int .i64 p9), .nil], .box [(.int .i64 p10), (.row 11)], .row .int p11, .row .int p12, .row .int p13, .row .int p14, .row .int p15, .row .int p16, .row .int p17, .row .int p18, .row .int p19])).run (tendrilref07_Turn_Λ k) = tendrilref07_Turn_L14x4 (k + 1) p0 p1 p2 p3 p4 p5 p6 p7 p8 p9 p10 p11 p12 p13 p14 p15 p16 p17 p18 p19 := by kernel_rfl
set_option maxHeartbeats 0 in
set_option maxRecDepth 5000000 in
theorem tendrilref07_Turn_e14x4 (k : Nat) (vs : List SV) (bs : List Blk) (r : ((List Int) × ((List Int) × ((((List Int) × ((List Int) × ((List Int) × (List Int)))) × (((List Int) × ((List Int) × ((List Int) × (List Int)))) × ((List Int) × ((List Int) × ((List Int) × (List Int)))))) × (Int × (List Int))))) × Bool) (h : tendrilref07_Turn_P14v4 (k + 1) vs bs = some (some r)) : ((nthC tendrilref07_Turn_C 0).g (mkSt [1, 2, 4, 5, 19] vs bs)).run (tendrilref07_Turn_Λ k) = some r := by
  unfold tendrilref07_Turn_P14v4 at h
  split at h
  · exact (tendrilref07_Turn_c14x4 k _ _ _ _ _ _ _ _ _ _ _ _ _ _ _ _ _ _ _ _).trans (Option.some.inj h)
  · cases h
set_option maxRecDepth 5000000 in
theorem tendrilref07_Turn_c14x5 (k : Nat) (p0 : Bool) (p1 : Int) (p2 : List Int) (p3 : List Int) (p4 : List Int) (p5 : List Int) (p6 : List Int) (p7 : List Int) (p8 : Int) (p9 : Int) (p10 : Int) (p11 : List Int) (p12 : List Int) (p13 : List Int) (p14 : List Int) (p15 : List Int) (p16 : List Int) (p17 : List Int) (p18 : List Int) (p19 : List Int) : ((nthC tendrilref07_Turn_C 0).g (mkSt [1, 2, 4, 5, 19] [.val (.one (.ptr 0 0)), .val (.one (.ptr 1 0)), .val (.one (.ptr 2 0)), .val (.one (.bool p0)), .val (.one (.int .i64 p1))] [.box [(.sl .int p2), (.sl .int p3), (.row 3), (.row 4), (.row 5), (.row 6), (.sl .int p4), (.sl .int p5), (.sl .int p6), (.sl .int p7), (.row 7), (.row 8), (.row 9), (.row 10), (.int .i64 p8), (.row 11)], .box [.nil, .nil, .nil, .nil, .nil, .nil, .nil, .nil, .nil, .nil, .nil, .nil, .nil, .nil, (.int .i64 p9), .nil], .box [(.int .i64 p10), (.row 11)], .row .int p11, .row .int p12, .row .int p13, .row .int p14, .row .int p15, .row .int p16, .row .int p17, .row .int p18, .row .int p19])).run (tendrilref07_Turn_Λ k) = tendrilref07_Turn_L14x5 (k + 1) p0 p1 p2 p3 p4 p5 p6 p7 p8 p9 p10 p11 p12 p13 p14 p15 p16 p17 p18 p19 := by kernel_rfl
set_option maxHeartbeats 0 in
set_option maxRecDepth 5000000 in
theorem tendrilref07_Turn_e14x5 (k : Nat) (vs : List SV) (bs : List Blk) (r : ((List Int) × ((List Int) × ((((List Int) × ((List Int) × ((List Int) × (List Int)))) × (((List Int) × ((List Int) × ((List Int) × (List Int)))) × ((List Int) × ((List Int) × ((List Int) × (List Int)))))) × (Int × (List Int))))) × Bool) (h : tendrilref07_Turn_P14v5 (k + 1) vs bs = some (some r)) : ((nthC tendrilref07_Turn_C 0).g (mkSt [1, 2, 4, 5, 19] vs bs)).run (tendrilref07_Turn_Λ k) = some r := by
  unfold tendrilref07_Turn_P14v5 at h
  split at h
  · exact (tendrilref07_Turn_c14x5 k _ _ _ _ _ _ _ _ _ _ _ _ _ _ _ _ _ _ _ _).trans (Option.some.inj h)
  · cases h
set_option maxRecDepth 5000000 in
theorem tendrilref07_Turn_c14x6 (k : Nat) (p0 : Bool) (p1 : Int) (p2 : List Int) (p3 : List Int) (p4 : List Int) (p5 : List Int) (p6 : List Int) (p7 : List Int) (p8 : Int) (p9 : Int) (p10 : Int) (p11 : List Int) (p12 : List Int) (p13 : List Int) (p14 : List Int) (p15 : List Int) (p16 : List Int) (p17 : List Int) (p18 : List Int) (p19 : List Int) : ((nthC tendrilref07_Turn_C 0).g (mkSt [1, 2, 4, 5, 19] [.val (.one (.ptr 0 0)), .val (.one (.ptr 1 0)), .val (.one (.ptr 2 0)), .val (.one (.bool p0)), .val (.one (.int .i64 p1))] [.box [(.sl .int p2), (.sl .int p3), (.row 3), (.row 4), (.row 5), (.row 6), (.row 7), (.row 8), (.row 9), (.row 10), (.sl .int p4), (.sl .int p5), (.sl .int p6), (.sl .int p7), (.int .i64 p8), (.row 11)], .box [.nil, .nil, .nil, .nil, .nil, .nil, .nil, .nil, .nil, .nil, .nil, .nil, .nil, .nil, (.int .i64 p9), .nil], .box [(.int .i64 p10), (.row 11)], .row .int p11, .row .int p12, .row .int p13, .row .int p14, .row .int p15, .row .int p16, .row .int p17, .row .int p18, .row .int p19])).run (tendrilref07_Turn_Λ k) = tendrilref07_Turn_L14x6 (k + 1) p0 p1 p2 p3 p4 p5 p6 p7 p8 p9 p10 p11 p12 p13 p14 p15 p16 p17 p18 p19 := by kernel_rfl
set_option maxHeartbeats 0 in
set_option maxRecDepth 5000000 in
theorem tendrilref07_Turn_e14x6 (k : Nat) (vs : List SV) (bs : List Blk) (r : ((List Int) × ((List Int) × ((((List Int) × ((List Int) × ((List Int) × (List Int)))) × (((List Int) × ((List Int) × ((List Int) × (List Int)))) × ((List Int) × ((List Int) × ((List Int) × (List Int)))))) × (Int × (List Int))))) × Bool) (h : tendrilref07_Turn_P14v6 (k + 1) vs bs = some (some r)) : ((nthC tendrilref07_Turn_C 0).g (mkSt [1, 2, 4, 5, 19] vs bs)).run (tendrilref07_Turn_Λ k) = some r := by
  unfold tendrilref07_Turn_P14v6 at h
  split at h
  · exact (tendrilref07_Turn_c14x6 k _ _ _ _ _ _ _ _ _ _ _ _ _ _ _ _ _ _ _ _).trans (Option.some.inj h)
  · cases h
set_option maxRecDepth 5000000 in
theorem tendrilref07_Turn_c14x7 (k : Nat) (p0 : Bool) (p1 : Int) (p2 : List Int) (p3 : List Int) (p4 : Int) (p5 : Int) (p6 : Int) (p7 : List Int) (p8 : List Int) (p9 : List Int) (p10 : List Int) (p11 : List Int) (p12 : List Int) (p13 : List Int) (p14 : List Int) (p15 : List Int) (p16 : List Int) (p17 : List Int) (p18 : List Int) (p19 : List Int) : ((nthC tendrilref07_Turn_C 0).g (mkSt [1, 2, 4, 5, 19] [.val (.one (.ptr 0 0)), .val (.one (.ptr 1 0)), .val (.one (.ptr 2 0)), .val (.one (.bool p0)), .val (.one (.int .i64 p1))] [.box [(.sl .int p2), (.sl .int p3), (.row 3), (.row 4), (.row 5), (.row 6), (.row 7), (.row 8), (.row 9), (.row 10), (.row 11), (.row 12), (.row 13), (.row 14), (.int .i64 p4), (.row 15)], .box [.nil, .nil, .nil, .nil, .nil, .nil, .nil, .nil, .nil, .nil, .nil, .nil, .nil, .nil, (.int .i64 p5), .nil], .box [(.int .i64 p6), (.row 15)], .row .int p7, .row .int p8, .row .int p9, .row .int p10, .row .int p11, .row .int p12, .row .int p13, .row .int p14, .row .int p15, .row .int p16, .row .int p17, .row .int p18, .row .int p19])).run (tendrilref07_Turn_Λ k) = tendrilref07_Turn_L14x7 (k + 1) p0 p1 p2 p3 p4 p5 p6 p7 p8 p9 p10 p11 p12 p13 p14 p15 p16 p17 p18 p19 := by kernel_rfl
set_option maxHeartbeats 0 in
set_option maxRecDepth 5000000 in
theorem tendrilref07_Turn_e14x7 (k : Nat) (vs : List SV) (bs : List Blk) (r : ((List Int) × ((List Int) × ((((List Int) × ((List Int) × ((List Int) × (List Int)))) × (((List Int) × ((List Int) × ((List Int) × (List Int)))) × ((List Int) × ((List Int) × ((List Int) × (List Int)))))) × (Int × (List Int))))) × Bool) (h : tendrilref07_Turn_P14v7 (k + 1) vs bs = some (some r)) : ((nthC tendrilref07_Turn_C 0).g (mkSt [1, 2, 4, 5, 19] vs bs)).run (tendrilref07_Turn_Λ k) = some r := by
  unfold tendrilref07_Turn_P14v7 at h
  split at h
  · exact (tendrilref07_Turn_c14x7 k _ _ _ _ _ _ _ _ _ _ _ _ _ _ _ _ _ _ _ _).trans (Option.some.inj h)
  · cases h
theorem tendrilref07_Turn_d14 : CutOk tendrilref07_Turn_Λ (nthC tendrilref07_Turn_C 0) := by
  refine cutOk_of (L := 14) (live := [1, 2, 4, 5, 19]) (by kernel_rfl) (by kernel_rfl) fun k vs bs r h => ?_
  change tendrilref07_Turn_P14 (k + 1) vs bs = some r at h
  unfold tendrilref07_Turn_P14 at h
  split at h
  · rename_i q hq
    exact tendrilref07_Turn_e14 k vs bs r (hq.trans (congrArg some h))
  split at h
  · rename_i q hq
    exact tendrilref07_Turn_e14x1 k vs bs r (hq.trans (congrArg some h))
  split at h
  · rename_i q hq
    exact tendrilref07_Turn_e14x2 k vs bs r (hq.trans (congrArg some h))
  split at h
  · rename_i q hq
    exact tendrilref07_Turn_e14x3 k vs bs r (hq.trans (congrArg some h))
  split at h
  · rename_i q hq
    exact tendrilref07_Turn_e14x4 k vs bs r (hq.trans (congrArg some h))
  split at h
  · rename_i q hq
    exact tendrilref07_Turn_e14x5 k vs bs r (hq.trans (congrArg some h))
  split at h
  · rename_i q hq
    exact tendrilref07_Turn_e14x6 k vs bs r (hq.trans (congrArg some h))
  split at h
  · rename_i q hq
    exact tendrilref07_Turn_e14x7 k vs bs r (hq.trans (congrArg some h))
  cases h
theorem tendrilref07_Turn_cuts : ∀ p ∈ cuts Try.prog (lkΓ [(15, tendrilref07_Check_S), (58, tendrilref06_Turn_S), (59, tendrilref05_Reclaim_S), (60, tendrilref06_Safe_S)]) Try.f28.ntmps [(14, [1, 2, 4, 5, 19])] (bodyOf Try.f28) (κ0 Try.prog Try.f28 false [⟨true, (.pair (.sl .int) (.pair (.sl .int) (.pair (.pair (.pair (.sl .int) (.pair (.sl .int) (.pair (.sl .int) (.sl .int)))) (.pair (.pair (.sl .int) (.pair (.sl .int) (.pair (.sl .int) (.sl .int)))) (.pair (.sl .int) (.pair (.sl .int) (.pair (.sl .int) (.sl .int)))))) (.pair .int (.sl .int)))))⟩, ⟨false, .bool⟩]), CutOk tendrilref07_Turn_Λ p := cutsOk (l := tendrilref07_Turn_C) (n := 1) (by kernel_rfl) fun
  | 0, _ => tendrilref07_Turn_d14
  | k + 1, h => absurd h (by omega)
set_option maxHeartbeats 0 in
set_option maxRecDepth 5000000 in
theorem tendrilref07_Turn_z14 (vs : List SV) (bs : List Blk) (q : Option (((List Int) × ((List Int) × ((((List Int) × ((List Int) × ((List Int) × (List Int)))) × (((List Int) × ((List Int) × ((List Int) × (List Int)))) × ((List Int) × ((List Int) × ((List Int) × (List Int)))))) × (Int × (List Int))))) × Bool)) (h : tendrilref07_Turn_P14v0 0 vs bs = some q) : q = none := by
  unfold tendrilref07_Turn_P14v0 at h; split at h
  · have h := Option.some.inj h; rw [← h]; first | rfl | (unfold tendrilref07_Turn_L14; rfl)
  · cases h
set_option maxHeartbeats 0 in
set_option maxRecDepth 5000000 in
theorem tendrilref07_Turn_z14x1 (vs : List SV) (bs : List Blk) (q : Option (((List Int) × ((List Int) × ((((List Int) × ((List Int) × ((List Int) × (List Int)))) × (((List Int) × ((List Int) × ((List Int) × (List Int)))) × ((List Int) × ((List Int) × ((List Int) × (List Int)))))) × (Int × (List Int))))) × Bool)) (h : tendrilref07_Turn_P14v1 0 vs bs = some q) : q = none := by
  unfold tendrilref07_Turn_P14v1 at h; split at h
  · have h := Option.some.inj h; rw [← h]; first | rfl | (unfold tendrilref07_Turn_L14x1; rfl)
  · cases h
set_option maxHeartbeats 0 in
set_option maxRecDepth 5000000 in
theorem tendrilref07_Turn_z14x2 (vs : List SV) (bs : List Blk) (q : Option (((List Int) × ((List Int) × ((((List Int) × ((List Int) × ((List Int) × (List Int)))) × (((List Int) × ((List Int) × ((List Int) × (List Int)))) × ((List Int) × ((List Int) × ((List Int) × (List Int)))))) × (Int × (List Int))))) × Bool)) (h : tendrilref07_Turn_P14v2 0 vs bs = some q) : q = none := by
  unfold tendrilref07_Turn_P14v2 at h; split at h
  · have h := Option.some.inj h; rw [← h]; first | rfl | (unfold tendrilref07_Turn_L14x2; rfl)
  · cases h
set_option maxHeartbeats 0 in
set_option maxRecDepth 5000000 in
theorem tendrilref07_Turn_z14x3 (vs : List SV) (bs : List Blk) (q : Option (((List Int) × ((List Int) × ((((List Int) × ((List Int) × ((List Int) × (List Int)))) × (((List Int) × ((List Int) × ((List Int) × (List Int)))) × ((List Int) × ((List Int) × ((List Int) × (List Int)))))) × (Int × (List Int))))) × Bool)) (h : tendrilref07_Turn_P14v3 0 vs bs = some q) : q = none := by
  unfold tendrilref07_Turn_P14v3 at h; split at h
  · have h := Option.some.inj h; rw [← h]; first | rfl | (unfold tendrilref07_Turn_L14x3; rfl)
  · cases h
set_option maxHeartbeats 0 in
set_option maxRecDepth 5000000 in
theorem tendrilref07_Turn_z14x4 (vs : List SV) (bs : List Blk) (q : Option (((List Int) × ((List Int) × ((((List Int) × ((List Int) × ((List Int) × (List Int)))) × (((List Int) × ((List Int) × ((List Int) × (List Int)))) × ((List Int) × ((List Int) × ((List Int) × (List Int)))))) × (Int × (List Int))))) × Bool)) (h : tendrilref07_Turn_P14v4 0 vs bs = some q) : q = none := by
  unfold tendrilref07_Turn_P14v4 at h; split at h
  · have h := Option.some.inj h; rw [← h]; first | rfl | (unfold tendrilref07_Turn_L14x4; rfl)
  · cases h
set_option maxHeartbeats 0 in
set_option maxRecDepth 5000000 in
theorem tendrilref07_Turn_z14x5 (vs : List SV) (bs : List Blk) (q : Option (((List Int) × ((List Int) × ((((List Int) × ((List Int) × ((List Int) × (List Int)))) × (((List Int) × ((List Int) × ((List Int) × (List Int)))) × ((List Int) × ((List Int) × ((List Int) × (List Int)))))) × (Int × (List Int))))) × Bool)) (h : tendrilref07_Turn_P14v5 0 vs bs = some q) : q = none := by
  unfold tendrilref07_Turn_P14v5 at h; split at h
  · have h := Option.some.inj h; rw [← h]; first | rfl | (unfold tendrilref07_Turn_L14x5; rfl)
  · cases h
set_option maxHeartbeats 0 in
set_option maxRecDepth 5000000 in
theorem tendrilref07_Turn_z14x6 (vs : List SV) (bs : List Blk) (q : Option (((List Int) × ((List Int) × ((((List Int) × ((List Int) × ((List Int) × (List Int)))) × (((List Int) × ((List Int) × ((List Int) × (List Int)))) × ((List Int) × ((List Int) × ((List Int) × (List Int)))))) × (Int × (List Int))))) × Bool)) (h : tendrilref07_Turn_P14v6 0 vs bs = some q) : q = none := by
  unfold tendrilref07_Turn_P14v6 at h; split at h
  · have h := Option.some.inj h; rw [← h]; first | rfl | (unfold tendrilref07_Turn_L14x6; rfl)
  · cases h
set_option maxHeartbeats 0 in
set_option maxRecDepth 5000000 in
theorem tendrilref07_Turn_z14x7 (vs : List SV) (bs : List Blk) (q : Option (((List Int) × ((List Int) × ((((List Int) × ((List Int) × ((List Int) × (List Int)))) × (((List Int) × ((List Int) × ((List Int) × (List Int)))) × ((List Int) × ((List Int) × ((List Int) × (List Int)))))) × (Int × (List Int))))) × Bool)) (h : tendrilref07_Turn_P14v7 0 vs bs = some q) : q = none := by
  unfold tendrilref07_Turn_P14v7 at h; split at h
  · have h := Option.some.inj h; rw [← h]; first | rfl | (unfold tendrilref07_Turn_L14x7; rfl)
  · cases h
theorem tendrilref07_Turn_Λ0 (L : Nat) (vs : List SV) (bs : List Blk) : tendrilref07_Turn_Λ 0 L vs bs = none := by
  unfold tendrilref07_Turn_Λ
  split
  · unfold tendrilref07_Turn_P14
    split
    · rename_i q hq; exact tendrilref07_Turn_z14 _ _ q hq
    split
    · rename_i q hq; exact tendrilref07_Turn_z14x1 _ _ q hq
    split
    · rename_i q hq; exact tendrilref07_Turn_z14x2 _ _ q hq
    split
    · rename_i q hq; exact tendrilref07_Turn_z14x3 _ _ q hq
    split
    · rename_i q hq; exact tendrilref07_Turn_z14x4 _ _ q hq
    split
    · rename_i q hq; exact tendrilref07_Turn_z14x5 _ _ q hq
    split
    · rename_i q hq; exact tendrilref07_Turn_z14x6 _ _ q hq
    split
    · rename_i q hq; exact tendrilref07_Turn_z14x7 _ _ q hq
    rfl
  rfl
set_option maxRecDepth 5000000 in
theorem tendrilref07_Turn_run (K : Nat) (x : Tup [⟨true, (.pair (.sl .int) (.pair (.sl .int) (.pair (.pair (.pair (.sl .int) (.pair (.sl .int) (.pair (.sl .int) (.sl .int)))) (.pair (.pair (.sl .int) (.pair (.sl .int) (.pair (.sl .int) (.sl .int)))) (.pair (.sl .int) (.pair (.sl .int) (.pair (.sl .int) (.sl .int)))))) (.pair .int (.sl .int)))))⟩]) : (pxFn Try.prog (lkΓ [(15, tendrilref07_Check_S), (58, tendrilref06_Turn_S), (59, tendrilref05_Reclaim_S), (60, tendrilref06_Safe_S)]) [(14, [1, 2, 4, 5, 19])] Try.f28 (bodyOf Try.f28) false [⟨true, (.pair (.sl .int) (.pair (.sl .int) (.pair (.pair (.pair (.sl .int) (.pair (.sl .int) (.pair (.sl .int) (.sl .int)))) (.pair (.pair (.sl .int) (.pair (.sl .int) (.pair (.sl .int) (.sl .int)))) (.pair (.sl .int) (.pair (.sl .int) (.pair (.sl .int) (.sl .int)))))) (.pair .int (.sl .int)))))⟩, ⟨false, .bool⟩] (encTup [⟨true, (.pair (.sl .int) (.pair (.sl .int) (.pair (.pair (.pair (.sl .int) (.pair (.sl .int) (.pair (.sl .int) (.sl .int)))) (.pair (.pair (.sl .int) (.pair (.sl .int) (.pair (.sl .int) (.sl .int)))) (.pair (.sl .int) (.pair (.sl .int) (.pair (.sl .int) (.sl .int)))))) (.pair .int (.sl .int)))))⟩] x)).run (tendrilref07_Turn_Λ K) = tendrilref07_Turn_K K x := by kernel_rfl
set_option maxHeartbeats 0 in
set_option maxRecDepth 5000000 in
def tendrilref02_Same_P10v0 (k : Nat) (vs : List SV) (bs : List Blk) : Option (Option (Bool)) := match vs, bs with
  | [.val (.one (.sl .int p0)), .val (.one (.sl .int p1)), .val (.one (.int .i64 p2)), .val (.one (.int .i64 p3))], [] => some (tendrilref02_Same_L10 k p0 p1 p2 p3)
  | _, _ => none
def tendrilref02_Same_P10 (k : Nat) (vs : List SV) (bs : List Blk) : Option (Bool) := match tendrilref02_Same_P10v0 k vs bs with | some r => r | none => none
def tendrilref02_Same_Λ (k L : Nat) (vs : List SV) (bs : List Blk) : Option (Bool) := match Nat.beq L 10 with | true => tendrilref02_Same_P10 k vs bs | false => none
noncomputable def tendrilref02_Same_C : List (Cut (Tup [⟨false, .bool⟩])) := cuts Try.prog (lkΓ []) Try.f41.ntmps [(10, [0, 1, 12, 13])] (bodyOf Try.f41) (κ0 Try.prog Try.f41 false [⟨false, .bool⟩])
set_option maxRecDepth 5000000 in
theorem tendrilref02_Same_c10 (k : Nat) (p0 : List Int) (p1 : List Int) (p2 : Int) (p3 : Int) : ((nthC tendrilref02_Same_C 0).g (mkSt [0, 1, 12, 13] [.val (.one (.sl .int p0)), .val (.one (.sl .int p1)), .val (.one (.int .i64 p2)), .val (.one (.int .i64 p3))] [])).run (tendrilref02_Same_Λ k) = tendrilref02_Same_L10 (k + 1) p0 p1 p2 p3 := by kernel_rfl
set_option maxHeartbeats 0 in
set_option maxRecDepth 5000000 in
theorem tendrilref02_Same_e10 (k : Nat) (vs : List SV) (bs : List Blk) (r : Bool) (h : tendrilref02_Same_P10v0 (k + 1) vs bs = some (some r)) : ((nthC tendrilref02_Same_C 0).g (mkSt [0, 1, 12, 13] vs bs)).run (tendrilref02_Same_Λ k) = some r := by
  unfold tendrilref02_Same_P10v0 at h
  split at h
  · exact (tendrilref02_Same_c10 k _ _ _ _).trans (Option.some.inj h)
  · cases h
theorem tendrilref02_Same_d10 : CutOk tendrilref02_Same_Λ (nthC tendrilref02_Same_C 0) := by
  refine cutOk_of (L := 10) (live := [0, 1, 12, 13]) (by kernel_rfl) (by kernel_rfl) fun k vs bs r h => ?_
  change tendrilref02_Same_P10 (k + 1) vs bs = some r at h
  unfold tendrilref02_Same_P10 at h
  split at h
  · rename_i q hq
    exact tendrilref02_Same_e10 k vs bs r (hq.trans (congrArg some h))
  cases h
theorem tendrilref02_Same_cuts : ∀ p ∈ cuts Try.prog (lkΓ []) Try.f41.ntmps [(10, [0, 1, 12, 13])] (bodyOf Try.f41) (κ0 Try.prog Try.f41 false [⟨false, .bool⟩]), CutOk tendrilref02_Same_Λ p := cutsOk (l := tendrilref02_Same_C) (n := 1) (by kernel_rfl) fun
  | 0, _ => tendrilref02_Same_d10
  | k + 1, h => absurd h (by omega)
set_option maxHeartbeats 0 in
set_option maxRecDepth 5000000 in
theorem tendrilref02_Same_z10 (vs : List SV) (bs : List Blk) (q : Option (Bool)) (h : tendrilref02_Same_P10v0 0 vs bs = some q) : q = none := by
  unfold tendrilref02_Same_P10v0 at h; split at h
  · have h := Option.some.inj h; rw [← h]; first | rfl | (unfold tendrilref02_Same_L10; rfl)
  · cases h
theorem tendrilref02_Same_Λ0 (L : Nat) (vs : List SV) (bs : List Blk) : tendrilref02_Same_Λ 0 L vs bs = none := by
  unfold tendrilref02_Same_Λ
  split
  · unfold tendrilref02_Same_P10
    split
    · rename_i q hq; exact tendrilref02_Same_z10 _ _ q hq
    rfl
  rfl
set_option maxRecDepth 5000000 in
theorem tendrilref02_Same_run (K : Nat) (x : Tup [⟨false, (.sl .int)⟩, ⟨false, (.sl .int)⟩]) : (pxFn Try.prog (lkΓ []) [(10, [0, 1, 12, 13])] Try.f41 (bodyOf Try.f41) false [⟨false, .bool⟩] (encTup [⟨false, (.sl .int)⟩, ⟨false, (.sl .int)⟩] x)).run (tendrilref02_Same_Λ K) = tendrilref02_Same_K K x := by kernel_rfl
set_option maxRecDepth 5000000 in
theorem tendrilref07_Pin_run (x : Tup [⟨true, (.pair (.sl .int) (.pair (.sl .int) (.pair (.pair (.pair (.sl .int) (.pair (.sl .int) (.pair (.sl .int) (.sl .int)))) (.pair (.pair (.sl .int) (.pair (.sl .int) (.pair (.sl .int) (.sl .int)))) (.pair (.sl .int) (.pair (.sl .int) (.pair (.sl .int) (.sl .int)))))) (.pair .int (.sl .int)))))⟩, ⟨false, .int⟩]) : (pxFn Try.prog (lkΓ [(15, tendrilref07_Check_S), (57, tendrilref06_Pin_S)]) [] Try.f27 (bodyOf Try.f27) false [⟨true, (.pair (.sl .int) (.pair (.sl .int) (.pair (.pair (.pair (.sl .int) (.pair (.sl .int) (.pair (.sl .int) (.sl .int)))) (.pair (.pair (.sl .int) (.pair (.sl .int) (.pair (.sl .int) (.sl .int)))) (.pair (.sl .int) (.pair (.sl .int) (.pair (.sl .int) (.sl .int)))))) (.pair .int (.sl .int)))))⟩, ⟨false, .int⟩] (encTup [⟨true, (.pair (.sl .int) (.pair (.sl .int) (.pair (.pair (.pair (.sl .int) (.pair (.sl .int) (.pair (.sl .int) (.sl .int)))) (.pair (.pair (.sl .int) (.pair (.sl .int) (.pair (.sl .int) (.sl .int)))) (.pair (.sl .int) (.pair (.sl .int) (.pair (.sl .int) (.sl .int)))))) (.pair .int (.sl .int)))))⟩, ⟨false, .int⟩] x)).run (fun _ _ _ => none) = tendrilref07_Pin x := by kernel_rfl
theorem tendrilref07_Pin_cuts : ∀ p ∈ cuts Try.prog (lkΓ [(15, tendrilref07_Check_S), (57, tendrilref06_Pin_S)]) Try.f27.ntmps [] (bodyOf Try.f27) (κ0 Try.prog Try.f27 false [⟨true, (.pair (.sl .int) (.pair (.sl .int) (.pair (.pair (.pair (.sl .int) (.pair (.sl .int) (.pair (.sl .int) (.sl .int)))) (.pair (.pair (.sl .int) (.pair (.sl .int) (.pair (.sl .int) (.sl .int)))) (.pair (.sl .int) (.pair (.sl .int) (.pair (.sl .int) (.sl .int)))))) (.pair .int (.sl .int)))))⟩, ⟨false, .int⟩]), CutOk (fun _ _ _ _ => none) p := cutsNil (by kernel_rfl)
set_option maxRecDepth 5000000 in
theorem tendrillaw07_ArenaTurns_run (x : Tup [⟨true, (.pair (.sl .int) (.pair (.sl .int) (.pair (.pair (.pair (.sl .int) (.pair (.sl .int) (.pair (.sl .int) (.sl .int)))) (.pair (.pair (.sl .int) (.pair (.sl .int) (.pair (.sl .int) (.sl .int)))) (.pair (.sl .int) (.pair (.sl .int) (.pair (.sl .int) (.sl .int)))))) (.pair .int (.sl .int)))))⟩, ⟨false, .int⟩]) : (pxFn Try.prog (lkΓ [(9, tendrillaw07_live_S), (10, tendrilref07_Few_S), (13, tendrilref07_Same_S), (24, arena_Turn_S), (26, arena_Pin_S), (27, tendrilref07_Pin_S), (28, tendrilref07_Turn_S), (29, arena_End_S), (30, tendrilref07_End_S)]) [] Try.f7 (bodyOf Try.f7) false [⟨false, .bool⟩] (encTup [⟨true, (.pair (.sl .int) (.pair (.sl .int) (.pair (.pair (.pair (.sl .int) (.pair (.sl .int) (.pair (.sl .int) (.sl .int)))) (.pair (.pair (.sl .int) (.pair (.sl .int) (.pair (.sl .int) (.sl .int)))) (.pair (.sl .int) (.pair (.sl .int) (.pair (.sl .int) (.sl .int)))))) (.pair .int (.sl .int)))))⟩, ⟨false, .int⟩] x)).run (fun _ _ _ => none) = tendrillaw07_ArenaTurns x := by kernel_rfl
theorem tendrillaw07_ArenaTurns_cuts : ∀ p ∈ cuts Try.prog (lkΓ [(9, tendrillaw07_live_S), (10, tendrilref07_Few_S), (13, tendrilref07_Same_S), (24, arena_Turn_S), (26, arena_Pin_S), (27, tendrilref07_Pin_S), (28, tendrilref07_Turn_S), (29, arena_End_S), (30, tendrilref07_End_S)]) Try.f7.ntmps [] (bodyOf Try.f7) (κ0 Try.prog Try.f7 false [⟨false, .bool⟩]), CutOk (fun _ _ _ _ => none) p := cutsNil (by kernel_rfl)
set_option maxRecDepth 5000000 in
theorem pool_Take_run (x : Tup [⟨true, (.pair (.sl .int) (.pair (.sl .int) (.pair (.sl .int) (.sl .int))))⟩]) : (pxFn Try.prog (lkΓ [(42, pool_Check_S), (67, pool_own_S), (68, tag_Pack_S)]) [] Try.f47 (bodyOf Try.f47) true [⟨true, (.pair (.sl .int) (.pair (.sl .int) (.pair (.sl .int) (.sl .int))))⟩, ⟨false, .int⟩, ⟨false, .int⟩] (encTup [⟨true, (.pair (.sl .int) (.pair (.sl .int) (.pair (.sl .int) (.sl .int))))⟩] x)).run (fun _ _ _ => none) = pool_Take x := by kernel_rfl
theorem pool_Take_cuts : ∀ p ∈ cuts Try.prog (lkΓ [(42, pool_Check_S), (67, pool_own_S), (68, tag_Pack_S)]) Try.f47.ntmps [] (bodyOf Try.f47) (κ0 Try.prog Try.f47 true [⟨true, (.pair (.sl .int) (.pair (.sl .int) (.pair (.sl .int) (.sl .int))))⟩, ⟨false, .int⟩, ⟨false, .int⟩]), CutOk (fun _ _ _ _ => none) p := cutsNil (by kernel_rfl)
set_option maxRecDepth 5000000 in
theorem slices_ContainsFunc_era_Turn_1_run (x : Tup [⟨false, (.sl .int)⟩, ⟨false, (.clo 72 (.ref (.pair .int (.sl .int))))⟩]) : (pxFn Try.prog (lkΓ [(73000078, slices_IndexFunc_era_Turn_1_S)]) [] Try.f66 (bodyOf Try.f66) false [⟨false, .bool⟩] (encTup [⟨false, (.sl .int)⟩, ⟨false, (.clo 72 (.ref (.pair .int (.sl .int))))⟩] x)).run (fun _ _ _ => none) = slices_ContainsFunc_era_Turn_1 x := by kernel_rfl
theorem slices_ContainsFunc_era_Turn_1_cuts : ∀ p ∈ cuts Try.prog (lkΓ [(73000078, slices_IndexFunc_era_Turn_1_S)]) Try.f66.ntmps [] (bodyOf Try.f66) (κ0 Try.prog Try.f66 false [⟨false, .bool⟩]), CutOk (fun _ _ _ _ => none) p := cutsNil (by kernel_rfl)
set_option maxRecDepth 5000000 in
theorem tendrilref06_Same_run (x : Tup [⟨true, (.pair .int (.sl .int))⟩, ⟨true, (.pair .int (.sl .int))⟩]) : (pxFn Try.prog (lkΓ [(41, tendrilref02_Same_S)]) [] Try.f19 (bodyOf Try.f19) false [⟨false, .bool⟩] (encTup [⟨true, (.pair .int (.sl .int))⟩, ⟨true, (.pair .int (.sl .int))⟩] x)).run (fun _ _ _ => none) = tendrilref06_Same x := by kernel_rfl
theorem tendrilref06_Same_cuts : ∀ p ∈ cuts Try.prog (lkΓ [(41, tendrilref02_Same_S)]) Try.f19.ntmps [] (bodyOf Try.f19) (κ0 Try.prog Try.f19 false [⟨false, .bool⟩]), CutOk (fun _ _ _ _ => none) p := cutsNil (by kernel_rfl)
set_option maxRecDepth 5000000 in
theorem tendrilref06_Safe_run (x : Tup [⟨true, (.pair .int (.sl .int))⟩]) : (pxFn Try.prog (lkΓ [(45, tendrilref06_Check_S)]) [] Try.f60 (bodyOf Try.f60) false [⟨false, .int⟩] (encTup [⟨true, (.pair .int (.sl .int))⟩] x)).run (fun _ _ _ => none) = tendrilref06_Safe x := by kernel_rfl
theorem tendrilref06_Safe_cuts : ∀ p ∈ cuts Try.prog (lkΓ [(45, tendrilref06_Check_S)]) Try.f60.ntmps [] (bodyOf Try.f60) (κ0 Try.prog Try.f60 false [⟨false, .int⟩]), CutOk (fun _ _ _ _ => none) p := cutsNil (by kernel_rfl)
set_option maxRecDepth 5000000 in
theorem era_Turn_1_run (x : Tup [⟨false, .int⟩, ⟨false, (.ref (.pair .int (.sl .int)))⟩]) : (pxFn Try.prog (lkΓ []) [] Try.f72 (bodyOf Try.f72) false [⟨false, .bool⟩] (encTup [⟨false, .int⟩, ⟨false, (.ref (.pair .int (.sl .int)))⟩] x)).run (fun _ _ _ => none) = era_Turn_1 x := by kernel_rfl
theorem era_Turn_1_cuts : ∀ p ∈ cuts Try.prog (lkΓ []) Try.f72.ntmps [] (bodyOf Try.f72) (κ0 Try.prog Try.f72 false [⟨false, .bool⟩]), CutOk (fun _ _ _ _ => none) p := cutsNil (by kernel_rfl)
end Go.Proofs.YtcoiboghdmmdcacFn
