/- What the interpreter of code computes of these functions, part 2; no condition. -/
import Derived.Test.YtcoiboghdmmdcacProg
import Derived.KernelRfl
import Derived.Test.YtcoiboghdmmdcacPx25
import Derived.Test.YtcoiboghdmmdcacFnsD
set_option linter.unusedVariables false
set_option linter.unusedSimpArgs false
namespace Go.Proofs.YtcoiboghdmmdcacFn
open Go Go.RowKit Go.Proofs.YtcoiboghdmmdcacPx
set_option maxHeartbeats 0 in
set_option maxRecDepth 5000000 in
def tendrilref07_New_P14v0 (k : Nat) (vs : List SV) (bs : List Blk) : Option (Option ((List Int × List Int × ((List Int × List Int × List Int × List Int) × (List Int × List Int × List Int × List Int) × List Int × List Int × List Int × List Int) × Int × List Int) × Int)) := match vs, bs with
  | [.val (.one (.ptr 0 0)), .val (.one (.ptr 1 0)), .val (.one (.ptr 2 0)), .val (.one (.int .i64 p0))], [.box [(.int .i64 p1), (.int .i64 p2), (.int .i64 p3), (.int .i64 p4), (.int .i64 p5)], .box [.nil, .nil, .nil, .nil, .nil, .nil, .nil, .nil, .nil, .nil, .nil, .nil, .nil, .nil, (.int .i64 p6), .nil], .box [.nil, .nil, .nil, .nil, .nil, .nil, .nil, .nil, .nil, .nil, .nil, .nil, .nil, .nil, (.int .i64 p7), (.row 3)], .row .int p8] => some (tendrilref07_New_L14 k p0 p1 p2 p3 p4 p5 p6 p7 p8)
  | _, _ => none
set_option maxHeartbeats 0 in
set_option maxRecDepth 5000000 in
def tendrilref07_New_P14v1 (k : Nat) (vs : List SV) (bs : List Blk) : Option (Option ((List Int × List Int × ((List Int × List Int × List Int × List Int) × (List Int × List Int × List Int × List Int) × List Int × List Int × List Int × List Int) × Int × List Int) × Int)) := match vs, bs with
  | [.val (.one (.ptr 0 0)), .val (.one (.ptr 1 0)), .val (.one (.ptr 2 0)), .val (.one (.int .i64 p0))], [.box [(.int .i64 p1), (.int .i64 p2), (.int .i64 p3), (.int .i64 p4), (.int .i64 p5)], .box [.nil, .nil, .nil, .nil, .nil, .nil, .nil, .nil, .nil, .nil, .nil, .nil, .nil, .nil, (.int .i64 p6), .nil], .box [.nil, .nil, .nil, .nil, .nil, .nil, .nil, .nil, .nil, .nil, (.row 3), (.row 4), (.row 5), (.row 6), (.int .i64 p7), (.row 7)], .row .int p8, .row .int p9, .row .int p10, .row .int p11, .row .int p12] => some (tendrilref07_New_L14x1 k p0 p1 p2 p3 p4 p5 p6 p7 p8 p9 p10 p11 p12)
  | _, _ => none
set_option maxHeartbeats 0 in
set_option maxRecDepth 5000000 in
def tendrilref07_New_P14v2 (k : Nat) (vs : List SV) (bs : List Blk) : Option (Option ((List Int × List Int × ((List Int × List Int × List Int × List Int) × (List Int × List Int × List Int × List Int) × List Int × List Int × List Int × List Int) × Int × List Int) × Int)) := match vs, bs with
  | [.val (.one (.ptr 0 0)), .val (.one (.ptr 1 0)), .val (.one (.ptr 2 0)), .val (.one (.int .i64 p0))], [.box [(.int .i64 p1), (.int .i64 p2), (.int .i64 p3), (.int .i64 p4), (.int .i64 p5)], .box [.nil, .nil, .nil, .nil, .nil, .nil, .nil, .nil, .nil, .nil, .nil, .nil, .nil, .nil, (.int .i64 p6), .nil], .box [.nil, .nil, .nil, .nil, .nil, .nil, (.row 3), (.row 4), (.row 5), (.row 6), .nil, .nil, .nil, .nil, (.int .i64 p7), (.row 7)], .row .int p8, .row .int p9, .row .int p10, .row .int p11, .row .int p12] => some (tendrilref07_New_L14x2 k p0 p1 p2 p3 p4 p5 p6 p7 p8 p9 p10 p11 p12)
  | _, _ => none
set_option maxHeartbeats 0 in
set_option maxRecDepth 5000000 in
def tendrilref07_New_P14v3 (k : Nat) (vs : List SV) (bs : List Blk) : Option (Option ((List Int × List Int × ((List Int × List Int × List Int × List Int) × (List Int × List Int × List Int × List Int) × List Int × List Int × List Int × List Int) × Int × List Int) × Int)) := match vs, bs with
  | [.val (.one (.ptr 0 0)), .val (.one (.ptr 1 0)), .val (.one (.ptr 2 0)), .val (.one (.int .i64 p0))], [.box [(.int .i64 p1), (.int .i64 p2), (.int .i64 p3), (.int .i64 p4), (.int .i64 p5)], .box [.nil, .nil, .nil, .nil, .nil, .nil, .nil, .nil, .nil, .nil, .nil, .nil, .nil, .nil, (.int .i64 p6), .nil], .box [.nil, .nil, (.row 3), (.row 4), (.row 5), (.row 6), .nil, .nil, .nil, .nil, .nil, .nil, .nil, .nil, (.int .i64 p7), (.row 7)], .row .int p8, .row .int p9, .row .int p10, .row .int p11, .row .int p12] => some (tendrilref07_New_L14x3 k p0 p1 p2 p3 p4 p5 p6 p7 p8 p9 p10 p11 p12)
  | _, _ => none
set_option maxHeartbeats 0 in
set_option maxRecDepth 5000000 in
def tendrilref07_New_P14v4 (k : Nat) (vs : List SV) (bs : List Blk) : Option (Option ((List Int × List Int × ((List Int × List Int × List Int × List Int) × (List Int × List Int × List Int × List Int) × List Int × List Int × List Int × List Int) × Int × List Int) × Int)) := match vs, bs with
  | [.val (.one (.ptr 0 0)), .val (.one (.ptr 1 0)), .val (.one (.ptr 2 0)), .val (.one (.int .i64 p0))], [.box [(.int .i64 p1), (.int .i64 p2), (.int .i64 p3), (.int .i64 p4), (.int .i64 p5)], .box [.nil, .nil, .nil, .nil, .nil, .nil, .nil, .nil, .nil, .nil, .nil, .nil, .nil, .nil, (.int .i64 p6), .nil], .box [.nil, .nil, .nil, .nil, .nil, .nil, (.row 3), (.row 4), (.row 5), (.row 6), (.row 7), (.row 8), (.row 9), (.row 10), (.int .i64 p7), (.row 11)], .row .int p8, .row .int p9, .row .int p10, .row .int p11, .row .int p12, .row .int p13, .row .int p14, .row .int p15, .row .int p16] => some (tendrilref07_New_L14x4 k p0 p1 p2 p3 p4 p5 p6 p7 p8 p9 p10 p11 p12 p13 p14 p15 p16)
  | _, _ => none
set_option maxHeartbeats 0 in
set_option maxRecDepth 5000000 in
def tendrilref07_New_P14v5 (k : Nat) (vs : List SV) (bs : List Blk) : Option (Option ((List Int × List Int × ((List Int × List Int × List Int × List Int) × (List Int × List Int × List Int × List Int) × List Int × List Int × List Int × List Int) × Int × List Int) × Int)) := match vs, bs with
  | [.val (.one (.ptr 0 0)), .val (.one (.ptr 1 0)), .val (.one (.ptr 2 0)), .val (.one (.int .i64 p0))], [.box [(.int .i64 p1), (.int .i64 p2), (.int .i64 p3), (.int .i64 p4), (.int .i64 p5)], .box [.nil, .nil, .nil, .nil, .nil, .nil, .nil, .nil, .nil, .nil, .nil, .nil, .nil, .nil, (.int .i64 p6), .nil], .box [.nil, .nil, (.row 3), (.row 4), (.row 5), (.row 6), .nil, .nil, .nil, .nil, (.row 7), (.row 8), (.row 9), (.row 10), (.int .i64 p7), (.row 11)], .row .int p8, .row .int p9, .row .int p10, .row .int p11, .row .int p12, .row .int p13, .row .int p14, .row .int p15, .row .int p16] => some (tendrilref07_New_L14x5 k p0 p1 p2 p3 p4 p5 p6 p7 p8 p9 p10 p11 p12 p13 p14 p15 p16)
  | _, _ => none
set_option maxHeartbeats 0 in
set_option maxRecDepth 5000000 in
def tendrilref07_New_P14v6 (k : Nat) (vs : List SV) (bs : List Blk) : Option (Option ((List Int × List Int × ((List Int × List Int × List Int × List Int) × (List Int × List Int × List Int × List Int) × List Int × List Int × List Int × List Int) × Int × List Int) × Int)) := match vs, bs with
  | [.val (.one (.ptr 0 0)), .val (.one (.ptr 1 0)), .val (.one (.ptr 2 0)), .val (.one (.int .i64 p0))], [.box [(.int .i64 p1), (.int .i64 p2), (.int .i64 p3), (.int .i64 p4), (.int .i64 p5)], .box [.nil, .nil, .nil, .nil, .nil, .nil, .nil, .nil, .nil, .nil, .nil, .nil, .nil, .nil, (.int .i64 p6), .nil], .box [.nil, .nil, (.row 3), (.row 4), (.row 5), (.row 6), (.row 7), (.row 8), (.row 9), (.row 10), .nil, .nil, .nil, .nil, (.int .i64 p7), (.row 11)], .row .int p8, .row .int p9, .row .int p10, .row .int p11, .row .int p12, .row .int p13, .row .int p14, .row .int p15, .row .int p16] => some (tendrilref07_New_L14x6 k p0 p1 p2 p3 p4 p5 p6 p7 p8 p9 p10 p11 p12 p13 p14 p15 p16)
  | _, _ => none
set_option maxHeartbeats 0 in
set_option maxRecDepth 5000000 in
def tendrilref07_New_P14v7 (k : Nat) (vs : List SV) (bs : List Blk) : Option (Option ((List Int × List Int × ((List Int × List Int × List Int × List Int) × (List Int × List Int × List Int × List Int) × List Int × List Int × List Int × List Int) × Int × List Int) × Int)) := match vs, bs with
  | [.val (.one (.ptr 0 0)), .val (.one (.ptr 1 0)), .val (.one (.ptr 2 0)), .val (.one (.int .i64 p0))], [.box [(.int .i64 p1), (.int .i64 p2), (.int .i64 p3), (.int .i64 p4), (.int .i64 p5)], .box [.nil, .nil, .nil, .nil, .nil, .nil, .nil, .nil, .nil, .nil, .nil, .nil, .nil, .nil, (.int .i64 p6), .nil], .box [.nil, .nil, (.row 3), (.row 4), (.row 5), (.row 6), (.row 7), (.row 8), (.row 9), (.row 10), (.row 11), (.row 12), (.row 13), (.row 14), (.int .i64 p7), (.row 15)], .row .int p8, .row .int p9, .row .int p10, .row .int p11, .row .int p12, .row .int p13, .row .int p14, .row .int p15, .row .int p16, .row .int p17, .row .int p18, .row .int p19, .row .int p20] => some (tendrilref07_New_L14x7 k p0 p1 p2 p3 p4 p5 p6 p7 p8 p9 p10 p11 p12 p13 p14 p15 p16 p17 p18 p19 p20)
  | _, _ => none
def tendrilref07_New_P14 (k : Nat) (vs : List SV) (bs : List Blk) : Option ((List Int × List Int × ((List Int × List Int × List Int × List Int) × (List Int × List Int × List Int × List Int) × List Int × List Int × List Int × List Int) × Int × List Int) × Int) := match tendrilref07_New_P14v0 k vs bs with | some r => r | none => match tendrilref07_New_P14v1 k vs bs with | some r => r | none => match tendrilref07_New_P14v2 k vs bs with | some r => r | none => match tendrilref07_New_P14v3 k vs bs with | some r => r | none => match tendrilref07_New_P14v4 k vs bs with | some r => r | none => match tendrilref07_New_P14v5 k vs bs with | some r => r | none => match tendrilref07_New_P14v6 k vs bs with | some r => r | none => match tendrilref07_New_P14v7 k vs bs with | some r => r | none => none
def tendrilref07_New_Λ (k L : Nat) (vs : List SV) (bs : List Blk) : Option ((List Int × List Int × ((List Int × List Int × List Int × List Int) × (List Int × List Int × List Int × List Int) × List Int × List Int × List Int × List Int) × Int × List Int) × Int) := match Nat.beq L 14 with | true => tendrilref07_New_P14 k vs bs | false => none
noncomputable def tendrilref07_New_C : List (Cut (Tup [⟨true, (.pair (.sl .int) (.pair (.sl .int) (.pair (.pair (.pair (.sl .int) (.pair (.sl .int) (.pair (.sl .int) (.sl .int)))) (.pair (.pair (.sl .int) (.pair (.sl .int) (.pair (.sl .int) (.sl .int)))) (.pair (.sl .int) (.pair (.sl .int) (.pair (.sl .int) (.sl .int)))))) (.pair .int (.sl .int)))))⟩, ⟨false, .int⟩])) := cuts Try.prog (lkΓ [(37, tendrilref06_New_S), (38, tendrilref03_Check_S), (39, tendrilref03_Cap_S), (40, tendrilref05_New_S)]) Try.f12.ntmps [(14, [2, 4, 8, 27])] (bodyOf Try.f12) (κ0 Try.prog Try.f12 true [⟨true, (.pair (.sl .int) (.pair (.sl .int) (.pair (.pair (.pair (.sl .int) (.pair (.sl .int) (.pair (.sl .int) (.sl .int)))) (.pair (.pair (.sl .int) (.pair (.sl .int) (.pair (.sl .int) (.sl .int)))) (.pair (.sl .int) (.pair (.sl .int) (.pair (.sl .int) (.sl .int)))))) (.pair .int (.sl .int)))))⟩, ⟨false, .int⟩])
set_option maxRecDepth 5000000 in
theorem tendrilref07_New_c14 (k : Nat) (p0 : Int) (p1 : Int) (p2 : Int) (p3 : Int) (p4 : Int) (p5 : Int) (p6 : Int) (p7 : Int) (p8 : List Int) : ((nthC tendrilref07_New_C 0).g (mkSt [2, 4, 8, 27] [.val (.one (.ptr 0 0)), .val (.one (.ptr 1 0)), .val (.one (.ptr 2 0)), .val (.one (.int .i64 p0))] [.box [(.int .i64 p1), (.int .i64 p2), (.int .i64 p3), (.int .i64 p4), (.int .i64 p5)], .box [.nil, .nil, .nil, .nil, .nil, .nil, .nil, .nil, .nil, .nil, .nil, .nil, .nil, .nil, (.int .i64 p6), .nil], .box [.nil, .nil, .nil, .nil, .nil, .nil, .nil, .nil, .nil, .nil, .nil, .nil, .nil, .nil, (.int .i64 p7), (.row 3)], .row .int p8])).run (tendrilref07_New_Λ k) = tendrilref07_New_L14 (k + 1) p0 p1 p2 p3 p4 p5 p6 p7 p8 := by kernel_rfl
set_option maxHeartbeats 0 in
set_option maxRecDepth 5000000 in
theorem tendrilref07_New_e14 (k : Nat) (vs : List SV) (bs : List Blk) (r : ((List Int) × ((List Int) × ((((List Int) × ((List Int) × ((List Int) × (List Int)))) × (((List Int) × ((List Int) × ((List Int) × (List Int)))) × ((List Int) × ((List Int) × ((List Int) × (List Int)))))) × (Int × (List Int))))) × Int) (h : tendrilref07_New_P14v0 (k + 1) vs bs = some (some r)) : ((nthC tendrilref07_New_C 0).g (mkSt [2, 4, 8, 27] vs bs)).run (tendrilref07_New_Λ k) = some r := by
  unfold tendrilref07_New_P14v0 at h
  split at h
  · exact (tendrilref07_New_c14 k _ _ _ _ _ _ _ _ _).trans (Option.some.inj h)
  · cases h
set_option maxRecDepth 5000000 in
theorem tendrilref07_New_c14x1 (k : Nat) (p0 : Int) (p1 : Int) (p2 : Int) (p3 : Int) (p4 : Int) (p5 : Int) (p6 : Int) (p7 : Int) (p8 : List Int) (p9 : List Int) (p10 : List Int) (p11 : List Int) (p12 : List Int) : ((nthC tendrilref07_New_C 0).g (mkSt [2, 4, 8, 27] [.val (.one (.ptr 0 0)), .val (.one (.ptr 1 0)), .val (.one (.ptr 2 0)), .val (.one (.int .i64 p0))] [.box [(.int .i64 p1), (.int .i64 p2), (.int .i64 p3), (.int .i64 p4), (.int .i64 p5)], .box [.nil, .nil, .nil, .nil, .nil, .nil, .nil, .nil, .nil, .nil, .nil, .nil, .nil, .nil, (.int .i64 p6), .nil], .box [.nil, .nil, .nil, .nil, .nil, .nil, .nil, .nil, .nil, .nil, (.row 3), (.row 4), (.row 5), (.row 6), (.int .i64 p7), (.row 7)], .row .int p8, .row .int p9, .row .int p10, .row .int p11, .row .int p12])).run (tendrilref07_New_Λ k) = tendrilref07_New_L14x1 (k + 1) p0 p1 p2 p3 p4 p5 p6 p7 p8 p9 p10 p11 p12 := by kernel_rfl
set_option maxHeartbeats 0 in
set_option maxRecDepth 5000000 in
theorem tendrilref07_New_e14x1 (k : Nat) (vs : List SV) (bs : List Blk) (r : ((List Int) × ((List Int) × ((((List Int) × ((List Int) × ((List Int) × (List Int)))) × (((List Int) × ((List Int) × ((List Int) × (List Int)))) × ((List Int) × ((List Int) × ((List Int) × (List Int)))))) × (Int × (List Int))))) × Int) (h : tendrilref07_New_P14v1 (k + 1) vs bs = some (some r)) : ((nthC tendrilref07_New_C 0).g (mkSt [2, 4, 8, 27] vs bs)).run (tendrilref07_New_Λ k) = some r := by
  unfold tendrilref07_New_P14v1 at h
  split at h
  · exact (tendrilref07_New_c14x1 k _ _ _ _ _ _ _ _ _ _ _ _ _).trans (Option.some.inj h)
  · cases h
set_option maxRecDepth 5000000 in
theorem tendrilref07_New_c14x2 (k : Nat) (p0 : Int) (p1 : Int) (p2 : Int) (p3 : Int) (p4 : Int) (p5 : Int) (p6 : Int) (p7 : Int) (p8 : List Int) (p9 : List Int) (p10 : List Int) (p11 : List Int) (p12 : List Int) : ((nthC tendrilref07_New_C 0).g (mkSt [2, 4, 8, 27] [.val (.one (.ptr 0 0)), .val (.one (.ptr 1 0)), .val (.one (.ptr 2 0)), .val (.one (.int .i64 p0))] [.box [(.int .i64 p1), (.int .i64 p2), (.int .i64 p3), (.int .i64 p4), (.int .i64 p5)], .box [.nil, .nil, .nil, .nil, .nil, .nil, .nil, .nil, .nil, .nil, .nil, .nil, .nil, .nil, (.int .i64 p6), .nil], .box [.nil, .nil, .nil, .nil, .nil, .nil, (.row 3), (.row 4), (.row 5), (.row 6), .nil, .nil, .nil, .nil, (.int .i64 p7), (.row 7)], .row .int p8, .row .int p9, .row .int p10, .row .int p11, .row .int p12])).run (tendrilref07_New_Λ k) = tendrilref07_New_L14x2 (k + 1) p0 p1 p2 p3 p4 p5 p6 p7 p8 p9 p10 p11 p12 := by kernel_rfl
set_option maxHeartbeats 0 in
set_option maxRecDepth 5000000 in
theorem tendrilref07_New_e14x2 (k : Nat) (vs : List SV) (bs : List Blk) (r : ((List Int) × ((List Int) × ((((List Int) × ((List Int) × ((List Int) × (List Int)))) × (((List Int) × ((List Int) × ((List Int) × (List Int)))) × ((List Int) × ((List Int) × ((List Int) × (List Int)))))) × (Int × (List Int))))) × Int) (h : tendrilref07_New_P14v2 (k + 1) vs bs = some (some r)) : ((nthC tendrilref07_New_C 0).g (mkSt [2, 4, 8, 27] vs bs)).run (tendrilref07_New_Λ k) = some r := by
  unfold tendrilref07_New_P14v2 at h
  split at h
  · exact (tendrilref07_New_c14x2 k _ _ _ _ _ _ _ _ _ _ _ _ _).trans (Option.some.inj h)
  · cases h
set_option maxRecDepth 5000000 in
theorem tendrilref07_New_c14x3 (k : Nat) (p0 : Int) (p1 : Int) (p2 : Int) (p3 : Int) (p4 : Int) (p5 : Int) (p6 : Int) (p7 : Int) (p8 : List Int) (p9 : List Int) (p10 : List Int) (p11 : List Int) (p12 : List Int) : ((nthC tendrilref07_New_C 0).g (mkSt [2, 4, 8, 27] [.val (.one (.ptr 0 0)), .val (.one (.ptr 1 0)), .val (.one (.ptr 2 0)), .val (.one (.int .i64 p0))] [.box [(.int .i64 p1), (.int .i64 p2), (.int .i64 p3), (.int .i64 p4), (.int .i64 p5)], .box [.nil, .nil, .nil, .nil, .nil, .nil, .nil, .nil, .nil, .nil, .nil, .nil, .nil, .nil, (.int .i64 p6), .nil], .box [.nil, .nil, (.row 3), (.row 4), (.row 5), (.row 6), .nil, .nil, .nil, .nil, .nil, .nil, .nil, .nil, (.int .i64 p7), (.row 7)], .row .int p8, .row .int p9, .row .int p10, .row .int p11, .row .int p12])).run (tendrilref07_New_Λ k) = tendrilref07_New_L14x3 (k + 1) p0 p1 p2 p3 p4 p5 p6 p7 p8 p9 p10 p11 p12 := by kernel_rfl
set_option maxHeartbeats 0 in
set_option maxRecDepth 5000000 in
theorem tendrilref07_New_e14x3 (k : Nat) (vs : List SV) (bs : List Blk) (r : ((List Int) × ((List Int) × ((((List Int) × ((List Int) × ((List Int) × (List Int)))) × (((List Int) × ((List Int) × ((List Int) × (List Int)))) × ((List Int) × ((List Int) × ((List Int) × (List Int)))))) × (Int × (List Int))))) × Int) (h : tendrilref07_New_P14v3 (k + 1) vs bs = some (some r)) : ((nthC tendrilref07_New_C 0).g (mkSt [2, 4, 8, 27] vs bs)).run (tendrilref07_New_Λ k) = some r := by
  unfold tendrilref07_New_P14v3 at h
  split at h
  · exact (tendrilref07_New_c14x3 k _ _ _ _ _ _ _ _ _ _ _ _ _).trans (Option.some.inj h)
  · cases h
set_option maxRecDepth 5000000 in
theorem tendrilref07_New_c14x4 (k : Nat) (p0 : Int) (p1 : Int) (p2 : Int) (p3 : Int) (p4 : Int) (p5 : Int) (p6 : Int) (p7 : Int) (p8 : List Int) (p9 : List Int) (p10 : List Int) (p11 : List Int) (p12 : List Int) (p13 : List Int) (p14 : List Int) (p15 : List Int) (p16 : List Int) : ((nthC tendrilref07_New_C 0).g (mkSt [2, 4, 8, 27] [.val (.one (.ptr 0 0)), .val (.one (.ptr 1 0)), .val (.one (.ptr 2 0)), .val (.one (.int .i64 p0))] [.box [(.int .i64 p1), (.int .i64 p2), (.int .i64 p3), (.int .i64 p4), (.int .i64 p5)], .box [.nil, .nil, .nil, .nil, .nil, .nil, .nil, .nil, .nil, .nil, .nil, .nil, .nil, .nil, (.int .i64 p6), .nil], .box [.nil, .nil, .nil, .nil, .nil, .nil, (.row 3), (.row 4), (.row 5), (.row 6), (.row 7), (.row 8), (.row 9), (.row 10), (.int .i64 p7), (.row 11)], .row .int p8, .row .int p9, .row .int p10, .row .int p11, .row .int p12, .row .int p13, .row .int p14, .row .int p15, .row .int p16])).run (tendrilref07_New_Λ k) = tendrilref07_New_L14x4 (k + 1) p0 p1 p2 p3 p4 p5 p6 p7 p8 p9 p10 p11 p12 p13 p14 p15 p16 := by kernel_rfl
set_option maxHeartbeats 0 in
set_option maxRecDepth 5000000 in
theorem tendrilref07_New_e14x4 (k : Nat) (vs : List SV) (bs : List Blk) (r : ((List Int) × ((List Int) × ((((List Int) × ((List Int) × ((List Int) × (List Int)))) × (((List Int) × ((List Int) × ((List Int) × (List Int)))) × ((List Int) × ((List Int) × ((List Int) × (List Int)))))) × (Int × (List Int))))) × Int) (h : tendrilref07_New_P14v4 (k + 1) vs bs = some (some r)) : ((nthC tendrilref07_New_C 0).g (mkSt [2, 4, 8, 27] vs bs)).run (tendrilref07_New_Λ k) = some r := by
  unfold tendrilref07_New_P14v4 at h
  split at h
  · exact (tendrilref07_New_c14x4 k _ _ _ _ _ _ _ _ _ _ _ _ _ _ _ _ _).trans (Option.some.inj h)
  · cases h
set_option maxRecDepth 5000000 in
theorem tendrilref07_New_c14x5 (k : Nat) (p0 : Int) (p1 : Int) (p2 : Int) (p3 : Int) (p4 : Int) (p5 : Int) (p6 : Int) (p7 : Int) (p8 : List Int) (p9 : List Int) (p10 : List Int) (p11 : List Int) (p12 : List Int) (p13 : List Int) (p14 : List Int) (p15 : List Int) (p16 : List Int) : ((nthC tendrilref07_New_C 0).g (mkSt [2, 4, 8, 27] [.val (.one (.ptr 0 0)), .val (.one (.ptr 1 0)), .val (.one (.ptr 2 0)), .val (.one (.int .i64 p0))] [.box [(.int .i64 p1), (.int .i64 p2), (.int .i64 p3), (.int .i64 p4), (.int .i64 p5)], .box [.nil, .nil, .nil, .nil, .nil, .nil, .nil, .nil, .nil, .nil, .nil, .nil, .nil, .nil, (.int .i64 p6), .nil], .box [.nil, .nil, (.row 3), (.row 4), (.row 5), (.row 6), .nil, .nil, .nil, .nil, (.row 7), (.row 8), (.row 9), (.row 10), (.int .i64 p7), (.row 11)], .row .int p8, .row .int p9, .row .int p10, .row .int p11, .row .int p12, .row .int p13, .row .int p14, .row .int p15, .row .int p16])).run (tendrilref07_New_Λ k) = tendrilref07_New_L14x5 (k + 1) p0 p1 p2 p3 p4 p5 p6 p7 p8 p9 p10 p11 p12 p13 p14 p15 p16 := by kernel_rfl
set_option maxHeartbeats 0 in
set_option maxRecDepth 5000000 in
theorem tendrilref07_New_e14x5 (k : Nat) (vs : List SV) (bs : List Blk) (r : ((List Int) × ((List Int) × ((((List Int) × ((List Int) × ((List Int) × (List Int)))) × (((List Int) × ((List Int) × ((List Int) × (List Int)))) × ((List Int) × ((List Int) × ((List Int) × (List Int)))))) × (Int × (List Int))))) × Int) (h : tendrilref07_New_P14v5 (k + 1) vs bs = some (some r)) : ((nthC tendrilref07_New_C 0).g (mkSt [2, 4, 8, 27] vs bs)).run (tendrilref07_New_Λ k) = some r := by
  unfold tendrilref07_New_P14v5 at h
  split at h
  · exact (tendrilref07_New_c14x5 k _ _ _ _ _ _ _ _ _ _ _ _ _ _ _ _ _).trans (Option.some.inj h)
  · cases h
set_option maxRecDepth 5000000 in
theorem tendrilref07_New_c14x6 (k : Nat) (p0 : Int) (p1 : Int) (p2 : Int) (p3 : Int) (p4 : Int) (p5 : Int) (p6 : Int) (p7 : Int) (p8 : List Int) (p9 : List Int) (p10 : List Int) (p11 : List Int) (p12 : List Int) (p13 : List Int) (p14 : List Int) (p15 : List Int) (p16 : List Int) : ((nthC tendrilref07_New_C 0).g (mkSt [2, 4, 8, 27] [.val (.one (.ptr 0 0)), .val (.one (.ptr 1 0)), .val (.one (.ptr 2 0)), .val (.one (.int .i64 p0))] [.box [(.int .i64 p1), (.int .i64 p2), (.int .i64 p3), (.int .i64 p4), (.int .i64 p5)], .box [.nil, .nil, .nil, .nil, .nil, .nil, .nil, .nil, .nil, .nil, .nil, .nil, .nil, .nil, (.int .i64 p6), .nil], .box [.nil, .nil, (.row 3), (.row 4), (.row 5), (.row 6), (.row 7), (.row 8), (.row 9), (.row 10), .nil, .nil, .nil, .nil, (.int .i64 p7), (.row 11)], .row .int p8, .row .int p9, .row .int p10, .row .int p11, .row .int p12, .row .int p13, .row .int p14, .row .int p15, .row .int p16])).run (tendrilref07_New_Λ k) = tendrilref07_New_L14x6 (k + 1) p0 p1 p2 p3 p4 p5 p6 p7 p8 p9 p10 p11 p12 p13 p14 p15 p16 := by kernel_rfl
set_option maxHeartbeats 0 in
set_option maxRecDepth 5000000 in
theorem tendrilref07_New_e14x6 (k : Nat) (vs : List SV) (bs : List Blk) (r : ((List Int) × ((List Int) × ((((List Int) × ((List Int) × ((List Int) × (List Int)))) × (((List Int) × ((List Int) × ((List Int) × (List Int)))) × ((List Int) × ((List Int) × ((List Int) × (List Int)))))) × (Int × (List Int))))) × Int) (h : tendrilref07_New_P14v6 (k + 1) vs bs = some (some r)) : ((nthC tendrilref07_New_C 0).g (mkSt [2, 4, 8, 27] vs bs)).run (tendrilref07_New_Λ k) = some r := by
  unfold tendrilref07_New_P14v6 at h
  split at h
  · exact (tendrilref07_New_c14x6 k _ _ _ _ _ _ _ _ _ _ _ _ _ _ _ _ _).trans (Option.some.inj h)
  · cases h
set_option maxRecDepth 5000000 in
theorem tendrilref07_New_c14x7 (k : Nat) (p0 : Int) (p1 : Int) (p2 : Int) (p3 : Int) (p4 : Int) (p5 : Int) (p6 : Int) (p7 : Int) (p8 : List Int) (p9 : List Int) (p10 : List Int) (p11 : List Int) (p12 : List Int) (p13 : List Int) (p14 : List Int) (p15 : List Int) (p16 : List Int) (p17 : List Int) (p18 : List Int) (p19 : List Int) (p20 : List Int) : ((nthC tendrilref07_New_C 0).g (mkSt [2, 4, 8, 27] [.val (.one (.ptr 0 0)), .val (.one (.ptr 1 0)), .val (.one (.ptr 2 0)), .val (.one (.int .i64 p0))] [.box [(.int .i64 p1), (.int .i64 p2), (.int .i64 p3), (.int .i64 p4), (.int .i64 p5)], .box [.nil, .nil, .nil, .nil, .nil, .nil, .nil, .nil, .nil, .nil, .nil, .nil, .nil, .nil, (.int .i64 p6), .nil], .box [.nil, .nil, (.row 3), (.row 4), (.row 5), (.row 6), (.row 7), (.row 8), (.row 9), (.row 10), (.row 11), (.row 12), (.row 13), (.row 14), (.int .i64 p7), (.row 15)], .row .int p8, .row .int p9, .row .int p10, .row .int p11, .row .int p12, .row .int p13, .row .int p14, .row .int p15, .row .int p16, .row .int p17, .row .int p18, .row .int p19, .row .int p20])).run (tendrilref07_New_Λ k) = tendrilref07_New_L14x7 (k + 1) p0 p1 p2 p3 p4 p5 p6 p7 p8 p9 p10 p11 p12 p13 p14 p15 p16 p17 p18 p19 p20 := by kernel_rfl
set_option maxHeartbeats 0 in
set_option maxRecDepth 5000000 in
theorem tendrilref07_New_e14x7 (k : Nat) (vs : List SV) (bs : List Blk) (r : ((List Int) × ((List Int) × ((((List Int) × ((List Int) × ((List Int) × (List Int)))) × (((List Int) × ((List Int) × ((List Int) × (List Int)))) × ((List Int) × ((List Int) × ((List Int) × (List Int)))))) × (Int × (List Int))))) × Int) (h : tendrilref07_New_P14v7 (k + 1) vs bs = some (some r)) : ((nthC tendrilref07_New_C 0).g (mkSt [2, 4, 8, 27] vs bs)).run (tendrilref07_New_Λ k) = some r := by
  unfold tendrilref07_New_P14v7 at h
  split at h
  · exact (tendrilref07_New_c14x7 k _ _ _ _ _ _ _ _ _ _ _ _ _ _ _ _ _ _ _ _ _).trans (Option.some.inj h)
  · cases h
theorem tendrilref07_New_d14 : CutOk tendrilref07_New_Λ (nthC tendrilref07_New_C 0) := by
  refine cutOk_of (L := 14) (live := [2, 4, 8, 27]) (by kernel_rfl) (by kernel_rfl) fun k vs bs r h => ?_
  change tendrilref07_New_P14 (k + 1) vs bs = some r at h
  unfold tendrilref07_New_P14 at h
  split at h
  · rename_i q hq
    exact tendrilref07_New_e14 k vs bs r (hq.trans (congrArg some h))
  split at h
  · rename_i q hq
    exact tendrilref07_New_e14x1 k vs bs r (hq.trans (congrArg some h))
  split at h
  · rename_i q hq
    exact tendrilref07_New_e14x2 k vs bs r (hq.trans (congrArg some h))
  split at h
  · rename_i q hq
    exact tendrilref07_New_e14x3 k vs bs r (hq.trans (congrArg some h))
  split at h
  · rename_i q hq
    exact tendrilref07_New_e14x4 k vs bs r (hq.trans (congrArg some h))
  split at h
  · rename_i q hq
    exact tendrilref07_New_e14x5 k vs bs r (hq.trans (congrArg some h))
  split at h
  · rename_i q hq
    exact tendrilref07_New_e14x6 k vs bs r (hq.trans (congrArg some h))
  split at h
  · rename_i q hq
    exact tendrilref07_New_e14x7 k vs bs r (hq.trans (congrArg some h))
  cases h
theorem tendrilref07_New_cuts : ∀ p ∈ cuts Try.prog (lkΓ [(37, tendrilref06_New_S), (38, tendrilref03_Check_S), (39, tendrilref03_Cap_S), (40, tendrilref05_New_S)]) Try.f12.ntmps [(14, [2, 4, 8, 27])] (bodyOf Try.f12) (κ0 Try.prog Try.f12 true [⟨true, (.pair (.sl .int) (.pair (.sl .int) (.pair (.pair (.pair (.sl .int) (.pair (.sl .int) (.pair (.sl .int) (.sl .int)))) (.pair (.pair (.sl .int) (.pair (.sl .int) (.pair (.sl .int) (.sl .int)))) (.pair (.sl .int) (.pair (.sl .int) (.pair (.sl .int) (.sl .int)))))) (.pair .int (.sl .int)))))⟩, ⟨false, .int⟩]), CutOk tendrilref07_New_Λ p := cutsOk (l := tendrilref07_New_C) (n := 1) (by kernel_rfl) fun
  | 0, _ => tendrilref07_New_d14
  | k + 1, h => absurd h (by omega)
set_option maxHeartbeats 0 in
set_option maxRecDepth 5000000 in
theorem tendrilref07_New_z14 (vs : List SV) (bs : List Blk) (q : Option (((List Int) × ((List Int) × ((((List Int) × ((List Int) × ((List Int) × (List Int)))) × (((List Int) × ((List Int) × ((List Int) × (List Int)))) × ((List Int) × ((List Int) × ((List Int) × (List Int)))))) × (Int × (List Int))))) × Int)) (h : tendrilref07_New_P14v0 0 vs bs = some q) : q = none := by
  unfold tendrilref07_New_P14v0 at h; split at h
  · have h := Option.some.inj h; rw [← h]; first | rfl | (unfold tendrilref07_New_L14; rfl)
  · cases h
set_option maxHeartbeats 0 in
set_option maxRecDepth 5000000 in
theorem tendrilref07_New_z14x1 (vs : List SV) (bs : List Blk) (q : Option (((List Int) × ((List Int) × ((((List Int) × ((List Int) × ((List Int) × (List Int)))) × (((List Int) × ((List Int) × ((List Int) × (List Int)))) × ((List Int) × ((List Int) × ((List Int) × (List Int)))))) × (Int × (List Int))))) × Int)) (h : tendrilref07_New_P14v1 0 vs bs = some q) : q = none := by
  unfold tendrilref07_New_P14v1 at h; split at h
  · have h := Option.some.inj h; rw [← h]; first | rfl | (unfold tendrilref07_New_L14x1; rfl)
  · cases h
set_option maxHeartbeats 0 in
set_option maxRecDepth 5000000 in
theorem tendrilref07_New_z14x2 (vs : List SV) (bs : List Blk) (q : Option (((List Int) × ((List Int) × ((((List Int) × ((List Int) × ((List Int) × (List Int)))) × (((List Int) × ((List Int) × ((List Int) × (List Int)))) × ((List Int) × ((List Int) × ((List Int) × (List Int)))))) × (Int × (List Int))))) × Int)) (h : tendrilref07_New_P14v2 0 vs bs = some q) : q = none := by
  unfold tendrilref07_New_P14v2 at h; split at h
  · have h := Option.some.inj h; rw [← h]; first | rfl | (unfold tendrilref07_New_L14x2; rfl)
  · cases h
set_option maxHeartbeats 0 in
set_option maxRecDepth 5000000 in
theorem tendrilref07_New_z14x3 (vs : List SV) (bs : List Blk) (q : Option (((List Int) × ((List Int) × ((((List Int) × ((List Int) × ((List Int) × (List Int)))) × (((List Int) × ((List Int) × ((List Int) × (List Int)))) × ((List Int) × ((List Int) × ((List Int) × (List Int)))))) × (Int × (List Int))))) × Int)) (h : tendrilref07_New_P14v3 0 vs bs = some q) : q = none := by
  unfold tendrilref07_New_P14v3 at h; split at h
  · have h := Option.some.inj h; rw [← h]; first | rfl | (unfold tendrilref07_New_L14x3; rfl)
  · cases h
set_option maxHeartbeats 0 in
set_option maxRecDepth 5000000 in
theorem tendrilref07_New_z14x4 (vs : List SV) (bs : List Blk) (q : Option (((List Int) × ((List Int) × ((((List Int) × ((List Int) × ((List Int) × (List Int)))) × (((List Int) × ((List Int) × ((List Int) × (List Int)))) × ((List Int) × ((List Int) × ((List Int) × (List Int)))))) × (Int × (List Int))))) × Int)) (h : tendrilref07_New_P14v4 0 vs bs = some q) : q = none := by
  unfold tendrilref07_New_P14v4 at h; split at h
  · have h := Option.some.inj h; rw [← h]; first | rfl | (unfold tendrilref07_New_L14x4; rfl)
  · cases h
set_option maxHeartbeats 0 in
set_option maxRecDepth 5000000 in
theorem tendrilref07_New_z14x5 (vs : List SV) (bs : List Blk) (q : Option (((List Int) × ((List Int) × ((((List Int) × ((List Int) × ((List Int) × (List Int)))) × (((List Int) × ((List Int) × ((List Int) × (List Int)))) × ((List Int) × ((List Int) × ((List Int) × (List Int)))))) × (Int × (List Int))))) × Int)) (h : tendrilref07_New_P14v5 0 vs bs = some q) : q = none := by
  unfold tendrilref07_New_P14v5 at h; split at h
  · have h := Option.some.inj h; rw [← h]; first | rfl | (unfold tendrilref07_New_L14x5; rfl)
  · cases h
set_option maxHeartbeats 0 in
set_option maxRecDepth 5000000 in
theorem tendrilref07_New_z14x6 (vs : List SV) (bs : List Blk) (q : Option (((List Int) × ((List Int) × ((((List Int) × ((List Int) × ((List Int) × (List Int)))) × (((List Int) × ((List Int) × ((List Int) × (List Int)))) × ((List Int) × ((List Int) × ((List Int) × (List Int)))))) × (Int × (List Int))))) × Int)) (h : tendrilref07_New_P14v6 0 vs bs = some q) : q = none := by
  unfold tendrilref07_New_P14v6 at h; split at h
  · have h := Option.some.inj h; rw [← h]; first | rfl | (unfold tendrilref07_New_L14x6; rfl)
  · cases h
set_option maxHeartbeats 0 in
set_option maxRecDepth 5000000 in
theorem tendrilref07_New_z14x7 (vs : List SV) (bs : List Blk) (q : Option (((List Int) × ((List Int) × ((((List Int) × ((List Int) × ((List Int) × (List Int)))) × (((List Int) × ((List Int) × ((List Int) × (List Int)))) × ((List Int) × ((List Int) × ((List Int) × (List Int)))))) × (Int × (List Int))))) × Int)) (h : tendrilref07_New_P14v7 0 vs bs = some q) : q = none := by
  unfold tendrilref07_New_P14v7 at h; split at h
  · have h := Option.some.inj h; rw [← h]; first | rfl | (unfold tendrilref07_New_L14x7; rfl)
  · cases h
theorem tendrilref07_New_Λ0 (L : Nat) (vs : List SV) (bs : List Blk) : tendrilref07_New_Λ 0 L vs bs = none := by
  unfold tendrilref07_New_Λ
  split
  · unfold tendrilref07_New_P14
    split
    · rename_i q hq; exact tendrilref07_New_z14 _ _ q hq
    split
    · rename_i q hq; exact tendrilref07_New_z14x1 _ _ q hq
    split
    · rename_i q hq; exact tendrilref07_New_z14x2 _ _ q hq
    split
    · rename_i q hq; exact tendrilref07_New_z14x3 _ _ q hq
    split
    · rename_i q hq; exact tendrilref07_New_z14x4 _ _ q hq
    split
    · rename_i q hq; exact tendrilref07_New_z14x5 _ _ q hq
    split
    · rename_i q hq; exact tendrilref07_New_z14x6 _ _ q hq
    split
    · rename_i q hq; exact tendrilref07_New_z14x7 _ _ q hq
    rfl
  rfl
set_option maxRecDepth 5000000 in
theorem tendrilref07_New_run (K : Nat) (x : Tup [⟨true, (.pair .int (.pair .int (.pair .int (.pair .int .int))))⟩, ⟨false, .int⟩]) : (pxFn Try.prog (lkΓ [(37, tendrilref06_New_S), (38, tendrilref03_Check_S), (39, tendrilref03_Cap_S), (40, tendrilref05_New_S)]) [(14, [2, 4, 8, 27])] Try.f12 (bodyOf Try.f12) true [⟨true, (.pair (.sl .int) (.pair (.sl .int) (.pair (.pair (.pair (.sl .int) (.pair (.sl .int) (.pair (.sl .int) (.sl .int)))) (.pair (.pair (.sl .int) (.pair (.sl .int) (.pair (.sl .int) (.sl .int)))) (.pair (.sl .int) (.pair (.sl .int) (.pair (.sl .int) (.sl .int)))))) (.pair .int (.sl .int)))))⟩, ⟨false, .int⟩] (encTup [⟨true, (.pair .int (.pair .int (.pair .int (.pair .int .int))))⟩, ⟨false, .int⟩] x)).run (tendrilref07_New_Λ K) = tendrilref07_New_K K x := by kernel_rfl
set_option maxHeartbeats 0 in
set_option maxRecDepth 5000000 in
def slices_IndexFunc_era_Turn_1_P6v0 (k : Nat) (vs : List SV) (bs : List Blk) : Option (Option (Int)) := match vs, bs with
  | [.val (.one (.sl .int p0)), .val (.one (.clo 72 (.ref (.pair .int (.sl .int))) p1)), .val (.one (.int .i64 p2)), .val (.one (.int .i64 p3))], [] => some (slices_IndexFunc_era_Turn_1_L6 k p0 p1 p2 p3)
  | _, _ => none
def slices_IndexFunc_era_Turn_1_P6 (k : Nat) (vs : List SV) (bs : List Blk) : Option (Int) := match slices_IndexFunc_era_Turn_1_P6v0 k vs bs with | some r => r | none => none
def slices_IndexFunc_era_Turn_1_Λ (k L : Nat) (vs : List SV) (bs : List Blk) : Option (Int) := match Nat.beq L 6 with | true => slices_IndexFunc_era_Turn_1_P6 k vs bs | false => none
noncomputable def slices_IndexFunc_era_Turn_1_C : List (Cut (Tup [⟨false, .int⟩])) := cuts Try.prog (lkΓ [(72, era_Turn_1_S)]) Try.f78.ntmps [(6, [0, 1, 7, 8])] (bodyOf Try.f78) (κ0 Try.prog Try.f78 false [⟨false, .int⟩])
set_option maxRecDepth 5000000 in
theorem slices_IndexFunc_era_Turn_1_c6 (k : Nat) (p0 : List Int) (p1 : Int × List Int) (p2 : Int) (p3 : Int) : ((nthC slices_IndexFunc_era_Turn_1_C 0).g (mkSt [0, 1, 7, 8] [.val (.one (.sl .int p0)), .val (.one (.clo 72 (.ref (.pair .int (.sl .int))) p1)), .val (.one (.int .i64 p2)), .val (.one (.int .i64 p3))] [])).run (slices_IndexFunc_era_Turn_1_Λ k) = slices_IndexFunc_era_Turn_1_L6 (k + 1) p0 p1 p2 p3 := by kernel_rfl
set_option maxHeartbeats 0 in
set_option maxRecDepth 5000000 in
theorem slices_IndexFunc_era_Turn_1_e6 (k : Nat) (vs : List SV) (bs : List Blk) (r : Int) (h : slices_IndexFunc_era_Turn_1_P6v0 (k + 1) vs bs = some (some r)) : ((nthC slices_IndexFunc_era_Turn_1_C 0).g (mkSt [0, 1, 7, 8] vs bs)).run (slices_IndexFunc_era_Turn_1_Λ k) = some r := by
  unfold slices_IndexFunc_era_Turn_1_P6v0 at h
  split at h
  · exact (slices_IndexFunc_era_Turn_1_c6 k _ _ _ _).trans (Option.some.inj h)
  · cases h
theorem slices_IndexFunc_era_Turn_1_d6 : CutOk slices_IndexFunc_era_Turn_1_Λ (nthC slices_IndexFunc_era_Turn_1_C 0) := by
  refine cutOk_of (L := 6) (live := [0, 1, 7, 8]) (by kernel_rfl) (by kernel_rfl) fun k vs bs r h => ?_
  change slices_IndexFunc_era_Turn_1_P6 (k + 1) vs bs = some r at h
  unfold slices_IndexFunc_era_Turn_1_P6 at h
  split at h
  · rename_i q hq
    exact slices_IndexFunc_era_Turn_1_e6 k vs bs r (hq.trans (congrArg some h))
  cases h
theorem slices_IndexFunc_era_Turn_1_cuts : ∀ p ∈ cuts Try.prog (lkΓ [(72, era_Turn_1_S)]) Try.f78.ntmps [(6, [0, 1, 7, 8])] (bodyOf Try.f78) (κ0 Try.prog Try.f78 false [⟨false, .int⟩]), CutOk slices_IndexFunc_era_Turn_1_Λ p := cutsOk (l := slices_IndexFunc_era_Turn_1_C) (n := 1) (by kernel_rfl) fun
  | 0, _ => slices_IndexFunc_era_Turn_1_d6
  | k + 1, h => absurd h (by omega)
set_option maxHeartbeats 0 in
set_option maxRecDepth 5000000 in
theorem slices_IndexFunc_era_Turn_1_z6 (vs : List SV) (bs : List Blk) (q : Option (Int)) (h : slices_IndexFunc_era_Turn_1_P6v0 0 vs bs = some q) : q = none := by
  unfold slices_IndexFunc_era_Turn_1_P6v0 at h; split at h
  · have h := Option.some.inj h; rw [← h]; first | rfl | (unfold slices_IndexFunc_era_Turn_1_L6; rfl)
  · cases h
theorem slices_IndexFunc_era_Turn_1_Λ0 (L : Nat) (vs : List SV) (bs : List Blk) : slices_IndexFunc_era_Turn_1_Λ 0 L vs bs = none := by
  unfold slices_IndexFunc_era_Turn_1_Λ
  split
  · unfold slices_IndexFunc_era_Turn_1_P6
    split
    · rename_i q hq; exact slices_IndexFunc_era_Turn_1_z6 _ _ q hq
    rfl
  rfl
set_option maxRecDepth 5000000 in
theorem slices_IndexFunc_era_Turn_1_run (K : Nat) (x : Tup [⟨false, (.sl .int)⟩, ⟨false, (.clo 72 (.ref (.pair .int (.sl .int))))⟩]) : (pxFn Try.prog (lkΓ [(72, era_Turn_1_S)]) [(6, [0, 1, 7, 8])] Try.f78 (bodyOf Try.f78) false [⟨false, .int⟩] (encTup [⟨false, (.sl .int)⟩, ⟨false, (.clo 72 (.ref (.pair .int (.sl .int))))⟩] x)).run (slices_IndexFunc_era_Turn_1_Λ K) = slices_IndexFunc_era_Turn_1_K K x := by kernel_rfl
set_option maxRecDepth 5000000 in
theorem tendrilref07_Retire_run (x : Tup [⟨true, (.pair (.sl .int) (.pair (.sl .int) (.pair (.pair (.pair (.sl .int) (.pair (.sl .int) (.pair (.sl .int) (.sl .int)))) (.pair (.pair (.sl .int) (.pair (.sl .int) (.pair (.sl .int) (.sl .int)))) (.pair (.sl .int) (.pair (.sl .int) (.pair (.sl .int) (.sl .int)))))) (.pair .int (.sl .int)))))⟩, ⟨false, .int⟩, ⟨false, .int⟩]) : (pxFn Try.prog (lkΓ [(15, tendrilref07_Check_S), (49, tendrilref07_kind_S), (51, tendrilref05_Retire_S)]) [] Try.f21 (bodyOf Try.f21) false [⟨true, (.pair (.sl .int) (.pair (.sl .int) (.pair (.pair (.pair (.sl .int) (.pair (.sl .int) (.pair (.sl .int) (.sl .int)))) (.pair (.pair (.sl .int) (.pair (.sl .int) (.pair (.sl .int) (.sl .int)))) (.pair (.sl .int) (.pair (.sl .int) (.pair (.sl .int) (.sl .int)))))) (.pair .int (.sl .int)))))⟩, ⟨false, .int⟩] (encTup [⟨true, (.pair (.sl .int) (.pair (.sl .int) (.pair (.pair (.pair (.sl .int) (.pair (.sl .int) (.pair (.sl .int) (.sl .int)))) (.pair (.pair (.sl .int) (.pair (.sl .int) (.pair (.sl .int) (.sl .int)))) (.pair (.sl .int) (.pair (.sl .int) (.pair (.sl .int) (.sl .int)))))) (.pair .int (.sl .int)))))⟩, ⟨false, .int⟩, ⟨false, .int⟩] x)).run (fun _ _ _ => none) = tendrilref07_Retire x := by kernel_rfl
theorem tendrilref07_Retire_cuts : ∀ p ∈ cuts Try.prog (lkΓ [(15, tendrilref07_Check_S), (49, tendrilref07_kind_S), (51, tendrilref05_Retire_S)]) Try.f21.ntmps [] (bodyOf Try.f21) (κ0 Try.prog Try.f21 false [⟨true, (.pair (.sl .int) (.pair (.sl .int) (.pair (.pair (.pair (.sl .int) (.pair (.sl .int) (.pair (.sl .int) (.sl .int)))) (.pair (.pair (.sl .int) (.pair (.sl .int) (.pair (.sl .int) (.sl .int)))) (.pair (.sl .int) (.pair (.sl .int) (.pair (.sl .int) (.sl .int)))))) (.pair .int (.sl .int)))))⟩, ⟨false, .int⟩]), CutOk (fun _ _ _ _ => none) p := cutsNil (by kernel_rfl)
set_option maxRecDepth 5000000 in
theorem arena_Take_run (x : Tup [⟨true, (.pair (.sl .int) (.pair (.sl .int) (.pair (.pair (.pair (.sl .int) (.pair (.sl .int) (.pair (.sl .int) (.sl .int)))) (.pair (.pair (.sl .int) (.pair (.sl .int) (.pair (.sl .int) (.sl .int)))) (.pair (.sl .int) (.pair (.sl .int) (.pair (.sl .int) (.sl .int)))))) (.pair .int (.sl .int)))))⟩, ⟨false, .int⟩]) : (pxFn Try.prog (lkΓ [(46, arena_may_S), (47, pool_Take_S)]) [] Try.f16 (bodyOf Try.f16) false [⟨true, (.pair (.sl .int) (.pair (.sl .int) (.pair (.pair (.pair (.sl .int) (.pair (.sl .int) (.pair (.sl .int) (.sl .int)))) (.pair (.pair (.sl .int) (.pair (.sl .int) (.pair (.sl .int) (.sl .int)))) (.pair (.sl .int) (.pair (.sl .int) (.pair (.sl .int) (.sl .int)))))) (.pair .int (.sl .int)))))⟩, ⟨false, .int⟩, ⟨false, .int⟩] (encTup [⟨true, (.pair (.sl .int) (.pair (.sl .int) (.pair (.pair (.pair (.sl .int) (.pair (.sl .int) (.pair (.sl .int) (.sl .int)))) (.pair (.pair (.sl .int) (.pair (.sl .int) (.pair (.sl .int) (.sl .int)))) (.pair (.sl .int) (.pair (.sl .int) (.pair (.sl .int) (.sl .int)))))) (.pair .int (.sl .int)))))⟩, ⟨false, .int⟩] x)).run (fun _ _ _ => none) = arena_Take x := by kernel_rfl
theorem arena_Take_cuts : ∀ p ∈ cuts Try.prog (lkΓ [(46, arena_may_S), (47, pool_Take_S)]) Try.f16.ntmps [] (bodyOf Try.f16) (κ0 Try.prog Try.f16 false [⟨true, (.pair (.sl .int) (.pair (.sl .int) (.pair (.pair (.pair (.sl .int) (.pair (.sl .int) (.pair (.sl .int) (.sl .int)))) (.pair (.pair (.sl .int) (.pair (.sl .int) (.pair (.sl .int) (.sl .int)))) (.pair (.sl .int) (.pair (.sl .int) (.pair (.sl .int) (.sl .int)))))) (.pair .int (.sl .int)))))⟩, ⟨false, .int⟩, ⟨false, .int⟩]), CutOk (fun _ _ _ _ => none) p := cutsNil (by kernel_rfl)
set_option maxRecDepth 5000000 in
theorem arena_may_run (x : Tup [⟨true, (.pair (.sl .int) (.pair (.sl .int) (.pair (.pair (.pair (.sl .int) (.pair (.sl .int) (.pair (.sl .int) (.sl .int)))) (.pair (.pair (.sl .int) (.pair (.sl .int) (.pair (.sl .int) (.sl .int)))) (.pair (.sl .int) (.pair (.sl .int) (.pair (.sl .int) (.sl .int)))))) (.pair .int (.sl .int)))))⟩, ⟨false, .int⟩]) : (pxFn Try.prog (lkΓ [(14, arena_Check_S)]) [] Try.f46 (bodyOf Try.f46) false [⟨false, .bool⟩] (encTup [⟨true, (.pair (.sl .int) (.pair (.sl .int) (.pair (.pair (.pair (.sl .int) (.pair (.sl .int) (.pair (.sl .int) (.sl .int)))) (.pair (.pair (.sl .int) (.pair (.sl .int) (.pair (.sl .int) (.sl .int)))) (.pair (.sl .int) (.pair (.sl .int) (.pair (.sl .int) (.sl .int)))))) (.pair .int (.sl .int)))))⟩, ⟨false, .int⟩] x)).run (fun _ _ _ => none) = arena_may x := by kernel_rfl
theorem arena_may_cuts : ∀ p ∈ cuts Try.prog (lkΓ [(14, arena_Check_S)]) Try.f46.ntmps [] (bodyOf Try.f46) (κ0 Try.prog Try.f46 false [⟨false, .bool⟩]), CutOk (fun _ _ _ _ => none) p := cutsNil (by kernel_rfl)
set_option maxRecDepth 5000000 in
theorem era_Turn_run (x : Tup [⟨true, (.pair .int (.sl .int))⟩]) : (pxFn Try.prog (lkΓ [(43, era_Check_S), (71, slices_Clone_S), (73000066, slices_ContainsFunc_era_Turn_1_S)]) [] Try.f53 (bodyOf Try.f53) true [⟨true, (.pair .int (.sl .int))⟩, ⟨false, .bool⟩] (encTup [⟨true, (.pair .int (.sl .int))⟩] x)).run (fun _ _ _ => none) = era_Turn x := by kernel_rfl
theorem era_Turn_cuts : ∀ p ∈ cuts Try.prog (lkΓ [(43, era_Check_S), (71, slices_Clone_S), (73000066, slices_ContainsFunc_era_Turn_1_S)]) Try.f53.ntmps [] (bodyOf Try.f53) (κ0 Try.prog Try.f53 true [⟨true, (.pair .int (.sl .int))⟩, ⟨false, .bool⟩]), CutOk (fun _ _ _ _ => none) p := cutsNil (by kernel_rfl)
set_option maxRecDepth 5000000 in
theorem era_Unpin_run (x : Tup [⟨true, (.pair .int (.sl .int))⟩, ⟨false, .int⟩]) : (pxFn Try.prog (lkΓ [(73, era_pinned_S), (74, era_with_S)]) [] Try.f61 (bodyOf Try.f61) true [⟨true, (.pair .int (.sl .int))⟩, ⟨false, .int⟩] (encTup [⟨true, (.pair .int (.sl .int))⟩, ⟨false, .int⟩] x)).run (fun _ _ _ => none) = era_Unpin x := by kernel_rfl
theorem era_Unpin_cuts : ∀ p ∈ cuts Try.prog (lkΓ [(73, era_pinned_S), (74, era_with_S)]) Try.f61.ntmps [] (bodyOf Try.f61) (κ0 Try.prog Try.f61 true [⟨true, (.pair .int (.sl .int))⟩, ⟨false, .int⟩]), CutOk (fun _ _ _ _ => none) p := cutsNil (by kernel_rfl)
set_option maxRecDepth 5000000 in
theorem era_pinned_run (x : Tup [⟨true, (.pair .int (.sl .int))⟩, ⟨false, .int⟩]) : (pxFn Try.prog (lkΓ [(43, era_Check_S)]) [] Try.f73 (bodyOf Try.f73) false [⟨false, .int⟩, ⟨false, .int⟩] (encTup [⟨true, (.pair .int (.sl .int))⟩, ⟨false, .int⟩] x)).run (fun _ _ _ => none) = era_pinned x := by kernel_rfl
theorem era_pinned_cuts : ∀ p ∈ cuts Try.prog (lkΓ [(43, era_Check_S)]) Try.f73.ntmps [] (bodyOf Try.f73) (κ0 Try.prog Try.f73 false [⟨false, .int⟩, ⟨false, .int⟩]), CutOk (fun _ _ _ _ => none) p := cutsNil (by kernel_rfl)
set_option maxRecDepth 5000000 in
theorem era_New_run (x : Tup [⟨false, .int⟩]) : (pxFn Try.prog (lkΓ [(63, slices_Repeat_S)]) [] Try.f35 (bodyOf Try.f35) true [⟨true, (.pair .int (.sl .int))⟩, ⟨false, .int⟩] (encTup [⟨false, .int⟩] x)).run (fun _ _ _ => none) = era_New x := by kernel_rfl
theorem era_New_cuts : ∀ p ∈ cuts Try.prog (lkΓ [(63, slices_Repeat_S)]) Try.f35.ntmps [] (bodyOf Try.f35) (κ0 Try.prog Try.f35 true [⟨true, (.pair .int (.sl .int))⟩, ⟨false, .int⟩]), CutOk (fun _ _ _ _ => none) p := cutsNil (by kernel_rfl)
set_option maxRecDepth 5000000 in
theorem tendrilref02_Copy_run (x : Tup [⟨false, (.sl .int)⟩]) : (pxFn Try.prog (lkΓ []) [] Try.f75 (bodyOf Try.f75) true [⟨false, (.sl .int)⟩] (encTup [⟨false, (.sl .int)⟩] x)).run (fun _ _ _ => none) = tendrilref02_Copy x := by kernel_rfl
theorem tendrilref02_Copy_cuts : ∀ p ∈ cuts Try.prog (lkΓ []) Try.f75.ntmps [] (bodyOf Try.f75) (κ0 Try.prog Try.f75 true [⟨false, (.sl .int)⟩]), CutOk (fun _ _ _ _ => none) p := cutsNil (by kernel_rfl)
end Go.Proofs.YtcoiboghdmmdcacFn
