/- What the interpreter of code computes of these functions, part 1; no condition. -/
import Derived.Test.YtcoiboghdmmdcadProg
import Derived.KernelRfl
import Derived.Test.YtcoiboghdmmdcadPx25
import Derived.Test.YtcoiboghdmmdcadFnsD
set_option linter.unusedVariables false
set_option linter.unusedSimpArgs false
namespace Go.Proofs.YtcoiboghdmmdcadFn
open Go Go.RowKit Go.Proofs.YtcoiboghdmmdcadPx
set_option maxHeartbeats 0 in
set_option maxRecDepth 5000000 in
def tendrilref07_New_P14v0 (k : Nat) (vs : List SV) (bs : List Blk) : Option (Option ((List Int × List Int × ((List Int × List Int × List Int × List Int) × (List Int × List Int × List Int × List Int) × List Int × List Int × List Int × List Int) × Int × List Int) × Int)) := match vs, bs with
  | [.val (.one (.ptr 0 0)), .val (.one (.ptr 1 0)), .val (.one (.ptr 2 0)), .val (.one (.int .i64 p0))], [.box [(.int .i64 p1), (.int .i64 p2), (.int .i64 p3), (.int .i64 p4), (.int .i64 p5)], .box [.nil, .nil, .nil, .nil, .nil, .nil, .nil, .nil, .nil, .nil, .nil, .nil, .nil, .nil, (.int .i64 p6), .nil], .box [.nil, .nil, .nil, .nil, .nil, .nil, .nil, .nil, .nil, .nil, .nil, .nil, .nil, .nil, (.int .i64 p7), (.row 3)], .row .int p8] => some (tendrilref07_New_L14 k p0 p1 p2 p3 p4 p5 p6 p7 p8)
  | _, _ => none
set_option maxHeartbeats 0 in
set_option maxRecDepth 5000000 in
def tendrilref07_New_P14v1 (k : Nat) (vs : List SV) (bs : List Blk) : Option (Option ((List Int × List Int × ((List Int × List Int × List Int × List Int) × (List Int × List Int × List Int × List Int) × List Int × List Int × List Int × List Int) × Int × List Int) × Int)) := match vs, bs with
  | [.val (.one (.ptr 0 0)), .val (.one (.ptr 1 0)), .val (.one (.ptr 2 0)), .val (.one (.int .i64 p0))], [.box [(.int .i64 p1), (.int .i64 p2), (.int .i64 p3), (.int .i64 p4), (.int .i64 p5)], .box [.nil, .nil, .nil, .nil, .nil, .nil, .nil, .nil, .nil, .nil, .nil, .nil, .nil, .nil, (.int .i64 p6), .nil], .box [.nil, .nil, .nil, .nil, .nil, .nil, .nil, .nil, .nil, .nil, (.row 3), (.row 4), (.row 5), (.row 6), (.int .i64 p7), (.row 7)], .row .int p8, .row .int p9, .row .int p10, .row .int p11, .row .int p12] => some (tendrilref07_New_L14x1 k p0 p1 p2 p3 p4 p5 p6 p7 p8 p9 p10 p11 p12)
  | _, _ => none
set_option maxHeartbeats 0 in
set_option maxRecDepth 5000000 in
def tendrilref07_New_P14v2 (k : Nat) (vs : List SV) (bs : List Blk) : Option (Option ((List Int × List Int × ((List Int × List Int × List Int × List Int) × (List Int × List Int × List Int × List Int) × List Int × List Int × List Int × List Int) × Int × List Int) × Int)) := match vs, bs with
  | [.val (.one (.ptr 0 0)), .val (.one (.ptr 1 0)), .val (.one (.ptr 2 0)), .val (.one (.int .i64 p0))], [.box [(.int .i64 p1), (.int .i64 p2), (.int .i64 p3), (.int .i64 p4), (.int .i64 p5)], .box [.nil, .nil, .nil, .nil, .nil, .nil, .nil, .nil, .nil, .nil, .nil, .nil, .nil, .nil, (.int .i64 p6), .nil], .box [.nil, .nil, .nil, .nil, .nil, .nil, (.row 3), (.row 4), (.row 5), (.row 6), .nil, .nil, .nil, .nil, (.int .i64 p7), (.row 7)], .row .int p8, .row .int p9, .row .int p10, .row .int p11, .row .int p12] => some (tendrilref07_New_L14x2 k p0 p1 p2 p3 p4 p5 p6 p7 p8 p9 p10 p11 p12)
  | _, _ => none
set_option maxHeartbeats 0 in
set_option maxRecDepth 5000000 in
def tendrilref07_New_P14v3 (k : Nat) (vs : List SV) (bs : List Blk) : Option (Option ((List Int × List Int × ((List Int × List Int × List Int × List Int) × (List Int × List Int × List Int × List Int) × List Int × List Int × List Int × List Int) × Int × List Int) × Int)) := match vs, bs with
  | [.val (.one (.ptr 0 0)), .val (.one (.ptr 1 0)), .val (.one (.ptr 2 0)), .val (.one (.int .i64 p0))], [.box [(.int .i64 p1), (.int .i64 p2), (.int .i64 p3), (.int .i64 p4), (.int .i64 p5)], .box [.nil, .nil, .nil, .nil, .nil, .nil, .nil, .nil, .nil, .nil, .nil, .nil, .nil, .nil, (.int .i64 p6), .nil], .box [.nil, .nil, (.row 3), (.row 4), (.row 5), (.row 6), .nil, .nil, .nil, .nil, .nil, .nil, .nil, .nil, (.int .i64 p7), (.row 7)], .row .int p8, .row .int p9, .row .int p10, .row .int p11, .row .int p12] => some (tendrilref07_New_L14x3 k p0 p1 p2 p3 p4 p5 p6 p7 p8 p9 p10 p11 p12)
  | _, _ => none
set_option maxHeartbeats 0 in
set_option maxRecDepth 5000000 in
def tendrilref07_New_P14v4 (k : Nat) (vs : List SV) (bs : List Blk) : Option (Option ((List Int × List Int × ((List Int × List Int × List Int × List Int) × (List Int × List Int × List Int × List Int) × List Int × List Int × List Int × List Int) × Int × List Int) × Int)) := match vs, bs with
  | [.val (.one (.ptr 0 0)), .val (.one (.ptr 1 0)), .val (.one (.ptr 2 0)), .val (.one (.int .i64 p0))], [.box [(.int .i64 p1), (.int .i64 p2), (.int .i64 p3), (.int .i64 p4), (.int .i64 p5)], .box [.nil, .nil, .nil, .nil, .nil, .nil, .nil, .nil, .nil, .nil, .nil, .nil, .nil, .nil, (.int .i64 p6), .nil], .box [.nil, .nil, .nil, .nil, .nil, .nil, (.row 3), (.row 4), (.row 5), (.row 6), (.row 7), (.row 8), (.row 9), (.row 10), (.int .i64 p7), (.row 11)], .row .int p8, .row .int p9, .row .int p10, .row .int p11, .row .int p12, .row .int p13, .row .int p14, .row .int p15, .row .int p16] => some (tendrilref07_New_L14x4 k p0 p1 p2 p3 p4 p5 p6 p7 p8 p9 p10 p11 p12 p13 p14 p15 p16)
  | _, _ => none
set_option maxHeartbeats 0 in
set_option maxRecDepth 5000000 in
def tendrilref07_New_P14v5 (k : Nat) (vs : List SV) (bs : List Blk) : Option (Option ((List Int × List Int × ((List Int × List Int × List Int × List Int) × (List Int × List Int × List Int × List Int) × List Int × List Int × List Int × List Int) × Int × List Int) × Int)) := match vs, bs with
  | [.val (.one (.ptr 0 0)), .val (.one (.ptr 1 0)), .val (.one (.ptr 2 0)), .val (.one (.int .i64 p0))], [.box [(.int .i64 p1), (.int .i64 p2), (.int .i64 p3), (.int .i64 p4), (.int .i64 p5)], .box [.nil, .nil, .nil, .nil, .nil, .nil, .nil, .nil, .nil, .nil, .nil, .nil, .nil, .nil, (.int .i64 p6), .nil], .box [.nil, .nil, (.row 3), (.row 4), (.row 5), (.row 6), .nil, .nil, .nil, .nil, (.row 7), (.row 8), (.row 9), (.row 10), (.int .i64 p7), (.row 11)], .row .int p8, .row .int p9, .row .int p10, .row .int p11, .row .int p12, .row .int p13, .row .int p14, .row .int p15, .row .int p16] => some (tendrilref07_New_L14x5 k p0 p1 p2 p3 p4 p5 p6 p7 p8 p9 p10 p11 p12 p13 p14 p15 p16)
  | _, _ => none
set_option maxHeartbeats 0 in
set_option maxRecDepth 5000000 in
def tendrilref07_New_P14v6 (k : Nat) (vs : List SV) (bs : List Blk) : Option (Option ((List Int × List Int × ((List Int × List Int × List Int × List Int) × (List Int × List Int × List Int × List Int) × List Int × List Int × List Int × List Int) × Int × List Int) × Int)) := match vs, bs with
  | [.val (.one (.ptr 0 0)), .val (.one (.ptr 1 0)), .val (.one (.ptr 2 0)), .val (.one (.int .i64 p0))], [.box [(.int .i64 p1), (.int .i64 p2), (.int .i64 p3), (.int .i64 p4), (.int .i64 p5)], .box [.nil, .nil, .nil, .nil, .nil, .nil, .nil, .nil, .nil, .nil, .nil, .nil, .nil, .nil, (.int .i64 p6), .nil], .box [.nil, .nil, (.row 3), (.row 4), (.row 5), (.row 6), (.row 7), (.row 8), (.row 9), (.row 10), .nil, .nil, .nil, .nil, (.int .i64 p7), (.row 11)], .row .int p8, .row .int p9, .row .int p10, .row .int p11, .row .int p12, .row .int p13, .row .int p14, .row .int p15, .row .int p16] => some (tendrilref07_New_L14x6 k p0 p1 p2 p3 p4 p5 p6 p7 p8 p9 p10 p11 p12 p13 p14 p15 p16)
  | _, _ => none
set_option maxHeartbeats 0 in
set_option maxRecDepth 5000000 in
def tendrilref07_New_P14v7 (k : Nat) (vs : List SV) (bs : List Blk) : Option (Option ((List Int × List Int × ((List Int × List Int × List Int × List Int) × (List Int × List Int × List Int × List Int) × List Int × List Int × List Int × List Int) × Int × List Int) × Int)) := match vs, bs with
  | [.val (.one (.ptr 0 0)), .val (.one (.ptr 1 0)), .val (.one (.ptr 2 0)), .val (.one (.int .i64 p0))], [.box [(.int .i64 p1), (.int .i64 p2), (.int .i64 p3), (.int .i64 p4), (.int .i64 p5)], .box [.nil, .nil, .nil, .nil, .nil, .nil, .nil, .nil, .nil, .nil, .nil, .nil, .nil, .nil, (.int .i64 p6), .nil], .box [.nil, .nil, (.row 3), (.row 4), (.row 5), (.row 6), (.row 7), (.row 8), (.row 9), (.row 10), (.row 11), (.row 12), (.row 13), (.row 14), (.int .i64 p7), (.row 15)], .row .int p8, .row .int p9, .row .int p10, .row .int p11, .row .int p12, .row .int p13, .row .int p14, .row .int p15, .row .int p16, .row .int p17, .row .int p18, .row .int p19, .row .int p20] => some (tendrilref07_New_L14x7 k p0 p1 p2 p3 p4 p5 p6 p7 p8 p9 p10 p11 p12 p13 p14 p15 p16 p17 p18 p19 p20)
  | _, _ => none
def tendrilref07_New_P14 (k : Nat) (vs : List SV) (bs : List Blk) : Option ((List Int × List Int × ((List Int × List Int × List Int × List Int) × (List Int × List Int × List Int × List Int) × List Int × List Int × List Int × List Int) × Int × List Int) × Int) := match tendrilref07_New_P14v0 k vs bs with | some r => r | none => match tendrilref07_New_P14v1 k vs bs with | some r => r | none => match tendrilref07_New_P14v2 k vs bs with | some r => r | none => match tendrilref07_New_P14v3 k vs bs with | some r => r | none => match tendrilref07_New_P14v4 k vs bs with | some r => r | none => match tendrilref07_New_P14v5 k vs bs with | some r => r | none => match tendrilref07_New_P14v6 k vs bs with | some r => r | none => match tendrilref07_New_P14v7 k vs bs with | some r => r | none => none
def tendrilref07_New_Λ (k L : Nat) (vs : List SV) (bs : List Blk) : Option ((List Int × List Int × ((List Int × List Int × List Int × List Int) × (List Int × List Int × List Int × List Int) × List Int × List Int × List Int × List Int) × Int × List Int) × Int) := match Nat.beq L 14 with | true => tendrilref07_New_P14 k vs bs | false => none
noncomputable def tendrilref07_New_C : List (Cut (Tup [⟨true, (.pair (.sl .int) (.pair (.sl .int) (.pair (.pair (.pair (.sl .int) (.pair (.sl .int) (.pair (.sl .int) (.sl .int)))) (.pair (.pair (.sl .int) (.pair (.sl .int) (.pair (.sl .int) (.sl .int)))) (.pair (.sl .int) (.pair (.sl .int) (.pair (.sl .int) (.sl .int)))))) (.pair .int (.sl .int)))))⟩, ⟨false, .int⟩])) := cuts Try.prog (lkΓ [(43, tendrilref06_New_S), (44, tendrilref03_Check_S), (45, tendrilref03_Cap_S), (46, tendrilref05_New_S)]) Try.f24.ntmps [(14, [2, 4, 8, 27])] (bodyOf Try.f24) (κ0 Try.prog Try.f24 true [⟨true, (.pair (.sl .int) (.pair (.sl .int) (.pair (.pair (.pair (.sl .int) (.pair (.sl .int) (.pair (.sl .int) (.sl .int)))) (.pair (.pair (.sl .int) (.pair (.sl .int) (.pair (.sl .int) (.sl .int)))) (.pair (.sl .int) (.pair (.sl .int) (.pair (.sl .int) (.sl .int)))))) (.pair .int (.sl .int)))))⟩, ⟨false, .int⟩])
set_option maxRecDepth 5000000 in
theorem tendrilref07_New_c14 (k : Nat) (p0 : Int) (p1 : Int) (p2 : Int) (p3 : Int) (p4 : Int) (p5 : Int) (p6 : Int) (p7 : Int) (p8 : List Int) : ((nthC tendrilref07_New_C 0).g (mkSt [2, 4, 8, 27] [.val (.one (.ptr 0 0)), .val (.one (.ptr 1 0)), .val (.one (.ptr 2 0)), .val (.one (.int .i64 p0))] [.box [(.int .i64 p1), (.int .i64 p2), (.int .i64 p3), (.int .i64 p4), (.int .i64 p5)], .box [.nil, .nil, .nil, .nil, .nil, .nil, .nil, .nil, .nil, .nil, .nil, .nil, .nil, .nil, (.int .i64 p6), .nil], .box [.nil, .nil, .nil, .nil, .nil, .nil, .nil, .nil, .nil, .nil, .nil, .nil, .nil, .nil, (.int .i64 p7), (.row 3)], .row .int p8])).run (tendrilref07_New_Λ k) = tendrilref07_New_L14 (k + 1) p0 p1 p2 p3 p4 p5 p6 p7 p8 := by kernel_rfl
set_option maxHeartbeats 0 in
set_option maxRecDepth 5000000 in
theorem tendrilref07_New_e14 (k : Nat) (vs : List SV) (bs : List Blk) (r : ((List Int) × ((List Int) × ((((List Int) × ((List Int) × ((List Int) × (List Int)))) × (((List Int) × ((List Int) × ((List Int) × (List Int)))) × ((List Int) × ((List Int) × ((List Int) × (List Int)))))) × (Int × (List Int))))) × Int) (h : tendrilref07_New_P14v0 (k + 1) vs bs = some (some r)) : ((nthC tendrilref07_New_C 0).g (mkSt [2, 4, 8, 27] vs bs)).run (tendrilref07_New_Λ k) = some r := by
  unfold tendrilref07_New_P14v0 at h
  split at h
  · exact (tendrilref07_New_c14 k _ _ _ _ _ _ _ _ _).trans (Option.some.inj h)
  · cases h
set_option maxRecDepth 5000000 in
theorem tendrilref07_New_c14x1 (k : Nat) (p0 : Int) (p1 : Int) (p2 : Int) (p3 : Int) (p4 : Int) (p5 : Int) (p6 : Int) (p7 : Int) (p8 : List Int) (p9 : List Int) (p10 : List Int) (p11 : List Int) (p12 : List Int) : ((nthC tendrilref07_New_C 0).g (mkSt [2, 4, 8, 27] [.val (.one (.ptr 0 0)), .val (.one (.ptr 1 0)), .val (.one (.ptr 2 0)), .val (.one (.int .i64 p0))] [.box [(.int .i64 p1), (.int .i64 p2), (.int .i64 p3), (.int .i64 p4), (.int .i64 p5)], .box [.nil, .nil, .nil, .nil, .nil, .nil, .nil, .nil, .nil, .nil, .nil, .nil, .nil, .nil, (.int .i64 p6), .nil], .box [.nil, .nil, .nil, .nil, .nil, .nil, .nil, .nil, .nil, .nil, (.row 3), (.row 4), (.row 5), (.row 6), (.int .i64 p7), (.row 7)], .row .int p8, .row .int p9, .row .int p10, .row .int p11, .row .int p12])).run (tendrilref07_New_Λ k) = tendrilref07_New_L14x1 (k + 1) p0 p1 p2 p3 p4 p5 p6 p7 p8 p9 p10 p11 p12 := by kernel_rfl
set_option maxHeartbeats 0 in
set_option maxRecDepth 5000000 in
theorem tendrilref07_New_e14x1 (k : Nat) (vs : List SV) (bs : List Blk) (r : ((List Int) × ((List Int) × ((((List Int) × ((List Int) × ((List Int) × (List Int)))) × (((List Int) × ((List Int) × ((List Int) × (List Int)))) × ((List Int) × ((List Int) × ((List Int) × (List Int)))))) × (Int × (List Int))))) × Int) (h : tendrilref07_New_P14v1 (k + 1) vs bs = some (some r)) : ((nthC tendrilref07_New_C 0).g (mkSt [2, 4, 8, 27] vs bs)).run (tendrilref07_New_Λ k) = some r := by
  unfold tendrilref07_New_P14v1 at h
  split at h
  · exact (tendrilref07_New_c14x1 k _ _ _ _ _ _ _ _ _ _ _ _ _).trans (Option.some.inj h)
  · cases h
set_option maxRecDepth 5000000 in
theorem tendrilref07_New_c14x2 (k : Nat) (p0 : Int) (p1 : Int) (p2 : Int) (p3 : Int) (p4 : Int) (p5 : Int) (p6 : Int) (p7 : Int) (p8 : List Int) (p9 : List Int) (p10 : List Int) (p11 : List Int) (p12 : List Int) : ((nthC tendrilref07_New_C 0).g (mkSt [2, 4, 8, 27] [.val (.one (.ptr 0 0)), .val (.one (.ptr 1 0)), .val (.one (.ptr 2 0)), .val (.one (.int .i64 p0))] [.box [(.int .i64 p1), (.int .i64 p2), (.int .i64 p3), (.int .i64 p4), (.int .i64 p5)], .box [.nil, .nil, .nil, .nil, .nil, .nil, .nil, .nil, .nil, .nil, .nil, .nil, .nil, .nil, (.int .i64 p6), .nil], .box [.nil, .nil, .nil, .nil, .nil, .nil, (.row 3), (.row 4), (.row 5), (.row 6), .nil, .nil, .nil, .nil, (.int .i64 p7), (.row 7)], .row .int p8, .row .int p9, .row .int p10, .row .int p11, .row .int p12])).run (tendrilref07_New_Λ k) = tendrilref07_New_L14x2 (k + 1) p0 p1 p2 p3 p4 p5 p6 p7 p8 p9 p10 p11 p12 := by kernel_rfl
set_option maxHeartbeats 0 in
set_option maxRecDepth 5000000 in
theorem tendrilref07_New_e14x2 (k : Nat) (vs : List SV) (bs : List Blk) (r : ((List Int) × ((List Int) × ((((List Int) × ((List Int) × ((List Int) × (List Int)))) × (((List Int) × ((List Int) × ((List Int) × (List Int)))) × ((List Int) × ((List Int) × ((List Int) × (List Int)))))) × (Int × (List Int))))) × Int) (h : tendrilref07_New_P14v2 (k + 1) vs bs = some (some r)) : ((nthC tendrilref07_New_C 0).g (mkSt [2, 4, 8, 27] vs bs)).run (tendrilref07_New_Λ k) = some r := by
  unfold tendrilref07_New_P14v2 at h
  split at h
  · exact (tendrilref07_New_c14x2 k _ _ _ _ _ _ _ _ _ _ _ _ _).trans (Option.some.inj h)
  · cases h
set_option maxRecDepth 5000000 in
theorem tendrilref07_New_c14x3 (k : Nat) (p0 : Int) (p1 : Int) (p2 : Int) (p3 : Int) (p4 : Int) (p5 : Int) (p6 : Int) (p7 : Int) (p8 : List Int) (p9 : List Int) (p10 : List Int) (p11 : List Int) (p12 : List Int) : ((nthC tendrilref07_New_C 0).g (mkSt [2, 4, 8, 27] [.val (.one (.ptr 0 0)), .val (.one (.ptr 1 0)), .val (.one (.ptr 2 0)), .val (.one (.int .i64 p0))] [.box [(.int .i64 p1), (.int .i64 p2), (.int .i64 p3), (.int .i64 p4), (.int .i64 p5)], .box [.nil, .nil, .nil, .nil, .nil, .nil, .nil, .nil, .nil, .nil, .nil, .nil, .nil, .nil, (.int .i64 p6), .nil], .box [.nil, .nil, (.row 3), (.row 4), (.row 5), (.row 6), .nil, .nil, .nil, .nil, .nil, .nil, .nil, .nil, (.int .i64 p7), (.row 7)], .row .int p8, .row .int p9, .row .int p10, .row .int p11, .row .int p12])).run (tendrilref07_New_Λ k) = tendrilref07_New_L14x3 (k + 1) p0 p1 p2 p3 p4 p5 p6 p7 p8 p9 p10 p11 p12 := by kernel_rfl
set_option maxHeartbeats 0 in
set_option maxRecDepth 5000000 in
theorem tendrilref07_New_e14x3 (k : Nat) (vs : List SV) (bs : List Blk) (r : ((List Int) × ((List Int) × ((((List Int) × ((List Int) × ((List Int) × (List Int)))) × (((List Int) × ((List Int) × ((List Int) × (List Int)))) × ((List Int) × ((List Int) × ((List Int) × (List Int)))))) × (Int × (List Int))))) × Int) (h : tendrilref07_New_P14v3 (k + 1) vs bs = some (some r)) : ((nthC tendrilref07_New_C 0).g (mkSt [2, 4, 8, 27] vs bs)).run (tendrilref07_New_Λ k) = some r := by
  unfold tendrilref07_New_P14v3 at h
  split at h
  · exact (tendrilref07_New_c14x3 k _ _ _ _ _ _ _ _ _ _ _ _ _).trans (Option.some.inj h)
  · cases h
set_option maxRecDepth 5000000 in
theorem tendrilref07_New_c14x4 (k : Nat) (p0 : Int) (p1 : Int) (p2 : Int) (p3 : Int) (p4 : Int) (p5 : Int) (p6 : Int) (p7 : Int) (p8 : List Int) (p9 : List Int) (p10 : List Int) (p11 : List Int) (p12 : List Int) (p13 : List Int) (p14 : List Int) (p15 : List Int) (p16 : List Int) : ((nthC tendrilref07_New_C 0).g (mkSt [2, 4, 8, 27] [.val (.one (.ptr 0 0)), .val (.one (.ptr 1 0)), .val (.one (.ptr 2 0)), .val (.one (.int .i64 p0))] [.box [(.int .i64 p1), (.int .i64 p2), (.int .i64 p3), (.int .i64 p4), (.int .i64 p5)], .box [.nil, .nil, .nil, .nil, .nil, .nil, .nil, .nil, .nil, .nil, .nil, .nil, .nil, .nil, (.int .i64 p6), .nil], .box [.nil, .nil, .nil, .nil, .nil, .nil, (.row 3), (.row 4), (.row 5), (.row 6), (.row 7), (.row 8), (.row 9), (.row 10), (.int .i64 p7), (.row 11)], .row .int p8, .row .int p9, .row .int p10, .row .int p11, .row .int p12, .row .int p13, .row .int p14, .row .int p15, .row .int p16])).run (tendrilref07_New_Λ k) = tendrilref07_New_L14x4 (k + 1) p0 p1 p2 p3 p4 p5 p6 p7 p8 p9 p10 p11 p12 p13 p14 p15 p16 := by kernel_rfl
set_option maxHeartbeats 0 in
set_option maxRecDepth 5000000 in
theorem tendrilref07_New_e14x4 (k : Nat) (vs : List SV) (bs : List Blk) (r : ((List Int) × ((List Int) × ((((List Int) × ((List Int) × ((List Int) × (List Int)))) × (((List Int) × ((List Int) × ((List Int) × (List Int)))) × ((List Int) × ((List Int) × ((List Int) × (List Int)))))) × (Int × (List Int))))) × Int) (h : tendrilref07_New_P14v4 (k + 1) vs bs = some (some r)) : ((nthC tendrilref07_New_C 0).g (mkSt [2, 4, 8, 27] vs bs)).run (tendrilref07_New_Λ k) = some r := by
  unfold tendrilref07_New_P14v4 at h
  split at h
  · exact (tendrilref07_New_c14x4 k _ _ _ _ _ _ _ _ _ _ _ _ _ _ _ _ _).trans (Option.some.inj h)
  · cases h
set_option maxRecDepth 5000000 in
theorem tendrilref07_New_c14x5 (k : Nat) (p0 : Int) (p1 : Int) (p2 : Int) (p3 : Int) (p4 : Int) (p5 : Int) (p6 : Int) (p7 : Int) (p8 : List Int) (p9 : List Int) (p10 : List Int) (p11 : List Int) (p12 : List Int) (p13 : List Int) (p14 : List Int) (p15 : List Int) (p16 : List Int) : ((nthC tendrilref07_New_C 0).g (mkSt [2, 4, 8, 27] [.val (.one (.ptr 0 0)), .val (.one (.ptr 1 0)), .val (.one (.ptr 2 0)), .val (.one (.int .i64 p0))] [.box [(.int .i64 p1), (.int .i64 p2), (.int .i64 p3), (.int .i64 p4), (.int .i64 p5)], .box [.nil, .nil, .nil, .nil, .nil, .nil, .nil, .nil, .nil, .nil, .nil, .nil, .nil, .nil, (.int .i64 p6), .nil], .box [.nil, .nil, (.row 3), (.row 4), (.row 5), (.row 6), .nil, .nil, .nil, .nil, (.row 7), (.row 8), (.row 9), (.row 10), (.int .i64 p7), (.row 11)], .row .int p8, .row .int p9, .row .int p10, .row .int p11, .row .int p12, .row .int p13, .row .int p14, .row .int p15, .row .int p16])).run (tendrilref07_New_Λ k) = tendrilref07_New_L14x5 (k + 1) p0 p1 p2 p3 p4 p5 p6 p7 p8 p9 p10 p11 p12 p13 p14 p15 p16 := by kernel_rfl
set_option maxHeartbeats 0 in
set_option maxRecDepth 5000000 in
theorem tendrilref07_New_e14x5 (k : Nat) (vs : List SV) (bs : List Blk) (r : ((List Int) × ((List Int) × ((((List Int) × ((List Int) × ((List Int) × (List Int)))) × (((List Int) × ((List Int) × ((List Int) × (List Int)))) × ((List Int) × ((List Int) × ((List Int) × (List Int)))))) × (Int × (List Int))))) × Int) (h : tendrilref07_New_P14v5 (k + 1) vs bs = some (some r)) : ((nthC tendrilref07_New_C 0).g (mkSt [2, 4, 8, 27] vs bs)).run (tendrilref07_New_Λ k) = some r := by
  unfold tendrilref07_New_P14v5 at h
  split at h
  · exact (tendrilref07_New_c14x5 k _ _ _ _ _ _ _ _ _ _ _ _ _ _ _ _ _).trans (Option.some.inj h)
  · cases h
set_option maxRecDepth 5000000 in
theorem tendrilref07_New_c14x6 (k : Nat) (p0 : Int) (p1 : Int) (p2 : Int) (p3 : Int) (p4 : Int) (p5 : Int) (p6 : Int) (p7 : Int) (p8 : List Int) (p9 : List Int) (p10 : List Int) (p11 : List Int) (p12 : List Int) (p13 : List Int) (p14 : List Int) (p15 : List Int) (p16 : List Int) : ((nthC tendrilref07_New_C 0).g (mkSt [2, 4, 8, 27] [.val (.one (.ptr 0 0)), .val (.one (.ptr 1 0)), .val (.one (.ptr 2 0)), .val (.one (.int .i64 p0))] [.box [(.int .i64 p1), (.int .i64 p2), (.int .i64 p3), (.int .i64 p4), (.int .i64 p5)], .box [.nil, .nil, .nil, .nil, .nil, .nil, .nil, .nil, .nil, .nil, .nil, .nil, .nil, .nil, (.int .i64 p6), .nil], .box [.nil, .nil, (.row 3), (.row 4), (.row 5), (.row 6), (.row 7), (.row 8), (.row 9), (.row 10), .nil, .nil, .nil, .nil, (.int .i64 p7), (.row 11)], .row .int p8, .row .int p9, .row .int p10, .row .int p11, .row .int p12, .row .int p13, .row .int p14, .row .int p15, .row .int p16])).run (tendrilref07_New_Λ k) = tendrilref07_New_L14x6 (k + 1) p0 p1 p2 p3 p4 p5 p6 p7 p8 p9 p10 p11 p12 p13 p14 p15 p16 := by kernel_rfl
set_option maxHeartbeats 0 in
set_option maxRecDepth 5000000 in
theorem tendrilref07_New_e14x6 (k : Nat) (vs : List SV) (bs : List Blk) (r : ((List Int) × ((List Int) × ((((List Int) × ((List Int) × ((List Int) × (List Int)))) × (((List Int) × ((List Int) × ((List Int) × (List Int)))) × ((List Int) × ((List Int) × ((List Int) × (List Int)))))) × (Int × (List Int))))) × Int) (h : tendrilref07_New_P14v6 (k + 1) vs bs = some (some r)) : ((nthC tendrilref07_New_C 0).g (mkSt [2, 4, 8, 27] vs bs)).run (tendrilref07_New_Λ k) = some r := by
  unfold tendrilref07_New_P14v6 at h
  split at h
  · exact (tendrilref07_New_c14x6 k _ _ _ _ _ _ _ _ _ _ _ _ _ _ _ _ _).trans (Option.some.inj h)
  · cases h
set_option maxRecDepth 5000000 in
theorem tendrilref07_New_c14x7 (k : Nat) (p0 : Int) (p1 : Int) (p2 : Int) (p3 : Int) (p4 : Int) (p5 : Int) (p6 : Int) (p7 : Int) (p8 : List Int) (p9 : List Int) (p10 : List Int) (p11 : List Int) (p12 : List Int) (p13 : List Int) (p14 : List Int) (p15 : List Int) (p16 : List Int) (p17 : List Int) (p18 : List Int) (p19 : List Int) (p20 : List Int) : ((nthC tendrilref07_New_C 0).g (mkSt [2, 4, 8, 27] [.val (.one (.ptr 0 0)), .val (.one (.ptr 1 0)), .val (.one (.ptr 2 0)), .val (.one (.int .i64 p0))] [.box [(.int .i64 p1), (.int .i64 p2), (.int .i64 p3), (.int .i64 p4), (.int .i64 p5)], .box [.nil, .nil, .nil, .nil, .nil, .nil, .nil, .nil, .nil, .nil, .nil, .nil, .nil, .nil, (.int .i64 p6), .nil], .box [.nil, .nil, (.row 3), (.row 4), (.row 5), (.row 6), (.row 7), (.row 8), (.row 9), (.row 10), (.row 11), (.row 12), (.row 13), (.row 14), (.int .i64 p7), (.row 15)], .row .int p8, .row .int p9, .row .int p10, .row .int p11, .row .int p12, .row .int p13, .row .int p14, .row .int p15, .row .int p16, .row .int p17, .row .int p18, .row .int p19, .row .int p20])).run (tendrilref07_New_Λ k) = tendrilref07_New_L14x7 (k + 1) p0 p1 p2 p3 p4 p5 p6 p7 p8 p9 p10 p11 p12 p13 p14 p15 p16 p17 p18 p19 p20 := by kernel_rfl
set_option maxHeartbeats 0 in
set_option maxRecDepth 5000000 in
theorem tendrilref07_New_e14x7 (k : Nat) (vs : List SV) (bs : List Blk) (r : ((List Int) × ((List Int) × ((((List Int) × ((List Int) × ((List Int) × (List Int)))) × (((List Int) × ((List Int) × ((List Int) × (List Int)))) × ((List Int) × ((List Int) × ((List Int) × (List Int)))))) × (Int × (List Int))))) × Int) (h : tendrilref07_New_P14v7 (k + 1) vs bs = some (some r)) : ((nthC tendrilref07_New_C 0).g (mkSt [2, 4, 8, 27] vs bs)).run (tendrilref07_New_Λ k) = some r := by
  unfold tendrilref07_New_P14v7 at h
  split at h
  · exact (tendrilref07_New_c14x7 k _ _ _ _ _ _ _ _ _ _ _ _ _ _ _ _ _ _ _ _ _).trans (Option.some.inj h)
  · cases h
theorem tendrilref07_New_d14 : CutOk tendrilref07_New_Λ (nthC tendrilref07_New_C 0) := by
  refine cutOk_of (L := 14) (live := [2, 4, 8, 27]) (by kernel_rfl) (by kernel_rfl) fun k vs bs r h => ?_
  change tendrilref07_New_P14 (k + 1) vs bs = some r at h
  unfold tendrilref07_New_P14 at h
  split at h
  · rename_i q hq
    exact tendrilref07_New_e14 k vs bs r (hq.trans (congrArg some h))
  split at h
  · rename_i q hq
    exact tendrilref07_New_e14x1 k vs bs r (hq.trans (congrArg some h))
  split at h
  · rename_i q hq
    exact tendrilref07_New_e14x2 k vs bs r (hq.trans (congrArg some h))
  split at h
  · rename_i q hq
    exact tendrilref07_New_e14x3 k vs bs r (hq.trans (congrArg some h))
  split at h
  · rename_i q hq
    exact tendrilref07_New_e14x4 k vs bs r (hq.trans (congrArg some h))
  split at h
  · rename_i q hq
    exact tendrilref07_New_e14x5 k vs bs r (hq.trans (congrArg some h))
  split at h
  · rename_i q hq
    exact tendrilref07_New_e14x6 k vs bs r (hq.trans (congrArg some h))
  split at h
  · rename_i q hq
    exact tendrilref07_New_e14x7 k vs bs r (hq.trans (congrArg some h))
  cases h
theorem tendrilref07_New_cuts : ∀ p ∈ cuts Try.prog (lkΓ [(43, tendrilref06_New_S), (44, tendrilref03_Check_S), (45, tendrilref03_Cap_S), (46, tendrilref05_New_S)]) Try.f24.ntmps [(14, [2, 4, 8, 27])] (bodyOf Try.f24) (κ0 Try.prog Try.f24 true [⟨true, (.pair (.sl .int) (.pair (.sl .int) (.pair (.pair (.pair (.sl .int) (.pair (.sl .int) (.pair (.sl .int) (.sl .int)))) (.pair (.pair (.sl .int) (.pair (.sl .int) (.pair (.sl .int) (.sl .int)))) (.pair (.sl .int) (.pair (.sl .int) (.pair (.sl .int) (.sl .int)))))) (.pair .int (.sl .int)))))⟩, ⟨false, .int⟩]), CutOk tendrilref07_New_Λ p := cutsOk (l := tendrilref07_New_C) (n := 1) (by kernel_rfl) fun
  | 0, _ => tendrilref07_New_d14
  | k + 1, h => absurd h (by omega)
set_option maxHeartbeats 0 in
set_option maxRecDepth 5000000 in
theorem tendrilref07_New_z14 (vs : List SV) (bs : List Blk) (q : Option (((List Int) × ((List Int) × ((((List Int) × ((List Int) × ((List Int) × (List Int)))) × (((List Int) × ((List Int) × ((List Int) × (List Int)))) × ((List Int) × ((List Int) × ((List Int) × (List Int)))))) × (Int × (List Int))))) × Int)) (h : tendrilref07_New_P14v0 0 vs bs = some q) : q = none := by
  unfold tendrilref07_New_P14v0 at h; split at h
  · have h := Option.some.inj h; rw [← h]; first | rfl | (unfold tendrilref07_New_L14; rfl)
  · cases h
set_option maxHeartbeats 0 in
set_option maxRecDepth 5000000 in
theorem tendrilref07_New_z14x1 (vs : List SV) (bs : List Blk) (q : Option (((List Int) × ((List Int) × ((((List Int) × ((List Int) × ((List Int) × (List Int)))) × (((List Int) × ((List Int) × ((List Int) × (List Int)))) × ((List Int) × ((List Int) × ((List Int) × (List Int)))))) × (Int × (List Int))))) × Int)) (h : tendrilref07_New_P14v1 0 vs bs = some q) : q = none := by
  unfold tendrilref07_New_P14v1 at h; split at h
  · have h := Option.some.inj h; rw [← h]; first | rfl | (unfold tendrilref07_New_L14x1; rfl)
  · cases h
set_option maxHeartbeats 0 in
set_option maxRecDepth 5000000 in
theorem tendrilref07_New_z14x2 (vs : List SV) (bs : List Blk) (q : Option (((List Int) × ((List Int) × ((((List Int) × ((List Int) × ((List Int) × (List Int)))) × (((List Int) × ((List Int) × ((List Int) × (List Int)))) × ((List Int) × ((List Int) × ((List Int) × (List Int)))))) × (Int × (List Int))))) × Int)) (h : tendrilref07_New_P14v2 0 vs bs = some q) : q = none := by
  unfold tendrilref07_New_P14v2 at h; split at h
  · have h := Option.some.inj h; rw [← h]; first | rfl | (unfold tendrilref07_New_L14x2; rfl)
  · cases h
set_option maxHeartbeats 0 in
set_option maxRecDepth 5000000 in
theorem tendrilref07_New_z14x3 (vs : List SV) (bs : List Blk) (q : Option (((List Int) × ((List Int) × ((((List Int) × ((List Int) × ((List Int) × (List Int)))) × (((List Int) × ((List Int) × ((List Int) × (List Int)))) × ((List Int) × ((List Int) × ((List Int) × (List Int)))))) × (Int × (List Int))))) × Int)) (h : tendrilref07_New_P14v3 0 vs bs = some q) : q = none := by
  unfold tendrilref07_New_P14v3 at h; split at h
  · have h := Option.some.inj h; rw [← h]; first | rfl | (unfold tendrilref07_New_L14x3; rfl)
  · cases h
set_option maxHeartbeats 0 in
set_option maxRecDepth 5000000 in
theorem tendrilref07_New_z14x4 (vs : List SV) (bs : List Blk) (q : Option (((List Int) × ((List Int) × ((((List Int) × ((List Int) × ((List Int) × (List Int)))) × (((List Int) × ((List Int) × ((List Int) × (List Int)))) × ((List Int) × ((List Int) × ((List Int) × (List Int)))))) × (Int × (List Int))))) × Int)) (h : tendrilref07_New_P14v4 0 vs bs = some q) : q = none := by
  unfold tendrilref07_New_P14v4 at h; split at h
  · have h := Option.some.inj h; rw [← h]; first | rfl | (unfold tendrilref07_New_L14x4; rfl)
  · cases h
set_option maxHeartbeats 0 in
set_option maxRecDepth 5000000 in
theorem tendrilref07_New_z14x5 (vs : List SV) (bs : List Blk) (q : Option (((List Int) × ((List Int) × ((((List Int) × ((List Int) × ((List Int) × (List Int)))) × (((List Int) × ((List Int) × ((List Int) × (List Int)))) × ((List Int) × ((List Int) × ((List Int) × (List Int)))))) × (Int × (List Int))))) × Int)) (h : tendrilref07_New_P14v5 0 vs bs = some q) : q = none := by
  unfold tendrilref07_New_P14v5 at h; split at h
  · have h := Option.some.inj h; rw [← h]; first | rfl | (unfold tendrilref07_New_L14x5; rfl)
  · cases h
set_option maxHeartbeats 0 in
set_option maxRecDepth 5000000 in
theorem tendrilref07_New_z14x6 (vs : List SV) (bs : List Blk) (q : Option (((List Int) × ((List Int) × ((((List Int) × ((List Int) × ((List Int) × (List Int)))) × (((List Int) × ((List Int) × ((List Int) × (List Int)))) × ((List Int) × ((List Int) × ((List Int) × (List Int)))))) × (Int × (List Int))))) × Int)) (h : tendrilref07_New_P14v6 0 vs bs = some q) : q = none := by
  unfold tendrilref07_New_P14v6 at h; split at h
  · have h := Option.some.inj h; rw [← h]; first | rfl | (unfold tendrilref07_New_L14x6; rfl)
  · cases h
set_option maxHeartbeats 0 in
set_option maxRecDepth 5000000 in
theorem tendrilref07_New_z14x7 (vs : List SV) (bs : List Blk) (q : Option (((List Int) × ((List Int) × ((((List Int) × ((List Int) × ((List Int) × (List Int)))) × (((List Int) × ((List Int) × ((List Int) × (List Int)))) × ((List Int) × ((List Int) × ((List Int) × (List Int)))))) × (Int × (List Int))))) × Int)) (h : tendrilref07_New_P14v7 0 vs bs = some q) : q = none := by
  unfold tendrilref07_New_P14v7 at h; split at h
  · have h := Option.some.inj h; rw [← h]; first | rfl | (unfold tendrilref07_New_L14x7; rfl)
  · cases h
theorem tendrilref07_New_Λ0 (L : Nat) (vs : List SV) (bs : List Blk) : tendrilref07_New_Λ 0 L vs bs = none := by
  unfold tendrilref07_New_Λ
  split
  · unfold tendrilref07_New_P14
    split
    · rename_i q hq; exact tendrilref07_New_z14 _ _ q hq
    split
    · rename_i q hq; exact tendrilref07_New_z14x1 _ _ q hq
    split
    · rename_i q hq; exact tendrilref07_New_z14x2 _ _ q hq
    split
    · rename_i q hq; exact tendrilref07_New_z14x3 _ _ q hq
    split
    · rename_i q hq; exact tendrilref07_New_z14x4 _ _ q hq
    split
    · rename_i q hq; exact tendrilref07_New_z14x5 _ _ q hq
    split
    · rename_i q hq; exact tendrilref07_New_z14x6 _ _ q hq
    split
    · rename_i q hq; exact tendrilref07_New_z14x7 _ _ q hq
    rfl
  rfl
set_option maxRecDepth 5000000 in
theorem tendrilref07_New_run (K : Nat) (x : Tup [⟨true, (.pair .int (.pair .int (.pair .int (.pair .int .int))))⟩, ⟨false, .int⟩]) : (pxFn Try.prog (lkΓ [(43, tendrilref06_New_S), (44, tendrilref03_Check_S), (45, tendrilref03_Cap_S), (46, tendrilref05_New_S)]) [(14, [2, 4, 8, 27])] Try.f24 (bodyOf Try.f24) true [⟨true, (.pair (.sl .int) (.pair (.sl .int) (.pair (.pair (.pair (.sl .int) (.pair (.sl .int) (.pair (.sl .int) (.sl .int)))) (.pair (.pair (.sl .int) (.pair (.sl .int) (.pair (.sl .int) (.sl .int)))) (.pair (.sl .int) (.pair (.sl .int) (.pair (.sl .int) (.sl .int)))))) (.pair .int (.sl .int)))))⟩, ⟨false, .int⟩] (encTup [⟨true, (.pair .int (.pair .int (.pair .int (.pair .int .int))))⟩, ⟨false, .int⟩] x)).run (tendrilref07_New_Λ K) = tendrilref07_New_K K x := by kernel_rfl
set_option maxRecDepth 5000000 in
theorem ask_latches_run (x : Tup [⟨true, (.pair (.sl .int) (.pair (.sl .int) (.pair (.pair (.pair (.sl .int) (.pair (.sl .int) (.pair (.sl .int) (.sl .int)))) (.pair (.pair (.sl .int) (.pair (.sl .int) (.pair (.sl .int) (.sl .int)))) (.pair (.sl .int) (.pair (.sl .int) (.pair (.sl .int) (.sl .int)))))) (.pair .int (.sl .int)))))⟩, ⟨true, (.pair .int (.pair .int (.pair .int (.pair .int (.pair .int .int)))))⟩]) : (pxFn Try.prog (lkΓ [(27, ask_has_S), (54, latch_Try_S), (55, ask_with_S), (56, latch_Free_S)]) [] Try.f32 (bodyOf Try.f32) false [⟨true, (.pair (.sl .int) (.pair (.sl .int) (.pair (.pair (.pair (.sl .int) (.pair (.sl .int) (.pair (.sl .int) (.sl .int)))) (.pair (.pair (.sl .int) (.pair (.sl .int) (.pair (.sl .int) (.sl .int)))) (.pair (.sl .int) (.pair (.sl .int) (.pair (.sl .int) (.sl .int)))))) (.pair .int (.sl .int)))))⟩, ⟨false, .int⟩, ⟨false, .int⟩] (encTup [⟨true, (.pair (.sl .int) (.pair (.sl .int) (.pair (.pair (.pair (.sl .int) (.pair (.sl .int) (.pair (.sl .int) (.sl .int)))) (.pair (.pair (.sl .int) (.pair (.sl .int) (.pair (.sl .int) (.sl .int)))) (.pair (.sl .int) (.pair (.sl .int) (.pair (.sl .int) (.sl .int)))))) (.pair .int (.sl .int)))))⟩, ⟨true, (.pair .int (.pair .int (.pair .int (.pair .int (.pair .int .int)))))⟩] x)).run (fun _ _ _ => none) = ask_latches x := by kernel_rfl
theorem ask_latches_cuts : ∀ p ∈ cuts Try.prog (lkΓ [(27, ask_has_S), (54, latch_Try_S), (55, ask_with_S), (56, latch_Free_S)]) Try.f32.ntmps [] (bodyOf Try.f32) (κ0 Try.prog Try.f32 false [⟨true, (.pair (.sl .int) (.pair (.sl .int) (.pair (.pair (.pair (.sl .int) (.pair (.sl .int) (.pair (.sl .int) (.sl .int)))) (.pair (.pair (.sl .int) (.pair (.sl .int) (.pair (.sl .int) (.sl .int)))) (.pair (.sl .int) (.pair (.sl .int) (.pair (.sl .int) (.sl .int)))))) (.pair .int (.sl .int)))))⟩, ⟨false, .int⟩, ⟨false, .int⟩]), CutOk (fun _ _ _ _ => none) p := cutsNil (by kernel_rfl)
set_option maxRecDepth 5000000 in
theorem ask_with_run (x : Tup [⟨true, (.pair (.sl .int) (.pair (.sl .int) (.pair (.pair (.pair (.sl .int) (.pair (.sl .int) (.pair (.sl .int) (.sl .int)))) (.pair (.pair (.sl .int) (.pair (.sl .int) (.pair (.sl .int) (.sl .int)))) (.pair (.sl .int) (.pair (.sl .int) (.pair (.sl .int) (.sl .int)))))) (.pair .int (.sl .int)))))⟩, ⟨false, .int⟩, ⟨false, .int⟩]) : (pxFn Try.prog (lkΓ [(68, slices_Clone_S)]) [] Try.f55 (bodyOf Try.f55) false [⟨true, (.pair (.sl .int) (.pair (.sl .int) (.pair (.pair (.pair (.sl .int) (.pair (.sl .int) (.pair (.sl .int) (.sl .int)))) (.pair (.pair (.sl .int) (.pair (.sl .int) (.pair (.sl .int) (.sl .int)))) (.pair (.sl .int) (.pair (.sl .int) (.pair (.sl .int) (.sl .int)))))) (.pair .int (.sl .int)))))⟩] (encTup [⟨true, (.pair (.sl .int) (.pair (.sl .int) (.pair (.pair (.pair (.sl .int) (.pair (.sl .int) (.pair (.sl .int) (.sl .int)))) (.pair (.pair (.sl .int) (.pair (.sl .int) (.pair (.sl .int) (.sl .int)))) (.pair (.sl .int) (.pair (.sl .int) (.pair (.sl .int) (.sl .int)))))) (.pair .int (.sl .int)))))⟩, ⟨false, .int⟩, ⟨false, .int⟩] x)).run (fun _ _ _ => none) = ask_with x := by kernel_rfl
theorem ask_with_cuts : ∀ p ∈ cuts Try.prog (lkΓ [(68, slices_Clone_S)]) Try.f55.ntmps [] (bodyOf Try.f55) (κ0 Try.prog Try.f55 false [⟨true, (.pair (.sl .int) (.pair (.sl .int) (.pair (.pair (.pair (.sl .int) (.pair (.sl .int) (.pair (.sl .int) (.sl .int)))) (.pair (.pair (.sl .int) (.pair (.sl .int) (.pair (.sl .int) (.sl .int)))) (.pair (.sl .int) (.pair (.sl .int) (.pair (.sl .int) (.sl .int)))))) (.pair .int (.sl .int)))))⟩]), CutOk (fun _ _ _ _ => none) p := cutsNil (by kernel_rfl)
set_option maxRecDepth 5000000 in
theorem ask_Waits_run (x : Tup [⟨true, (.pair (.sl .int) (.pair (.sl .int) (.pair (.pair (.pair (.sl .int) (.pair (.sl .int) (.pair (.sl .int) (.sl .int)))) (.pair (.pair (.sl .int) (.pair (.sl .int) (.pair (.sl .int) (.sl .int)))) (.pair (.sl .int) (.pair (.sl .int) (.pair (.sl .int) (.sl .int)))))) (.pair .int (.sl .int)))))⟩, ⟨true, (.pair .int (.pair .int (.pair .int (.pair .int (.pair .int .int)))))⟩]) : (pxFn Try.prog (lkΓ [(27, ask_has_S), (28, latch_Held_S)]) [] Try.f13 (bodyOf Try.f13) false [⟨false, .bool⟩] (encTup [⟨true, (.pair (.sl .int) (.pair (.sl .int) (.pair (.pair (.pair (.sl .int) (.pair (.sl .int) (.pair (.sl .int) (.sl .int)))) (.pair (.pair (.sl .int) (.pair (.sl .int) (.pair (.sl .int) (.sl .int)))) (.pair (.sl .int) (.pair (.sl .int) (.pair (.sl .int) (.sl .int)))))) (.pair .int (.sl .int)))))⟩, ⟨true, (.pair .int (.pair .int (.pair .int (.pair .int (.pair .int .int)))))⟩] x)).run (fun _ _ _ => none) = ask_Waits x := by kernel_rfl
theorem ask_Waits_cuts : ∀ p ∈ cuts Try.prog (lkΓ [(27, ask_has_S), (28, latch_Held_S)]) Try.f13.ntmps [] (bodyOf Try.f13) (κ0 Try.prog Try.f13 false [⟨false, .bool⟩]), CutOk (fun _ _ _ _ => none) p := cutsNil (by kernel_rfl)
set_option maxRecDepth 5000000 in
theorem pool_Take_run (x : Tup [⟨true, (.pair (.sl .int) (.pair (.sl .int) (.pair (.sl .int) (.sl .int))))⟩]) : (pxFn Try.prog (lkΓ [(61, pool_Check_S), (84, pool_own_S), (85, tag_Pack_S)]) [] Try.f74 (bodyOf Try.f74) true [⟨true, (.pair (.sl .int) (.pair (.sl .int) (.pair (.sl .int) (.sl .int))))⟩, ⟨false, .int⟩, ⟨false, .int⟩] (encTup [⟨true, (.pair (.sl .int) (.pair (.sl .int) (.pair (.sl .int) (.sl .int))))⟩] x)).run (fun _ _ _ => none) = pool_Take x := by kernel_rfl
theorem pool_Take_cuts : ∀ p ∈ cuts Try.prog (lkΓ [(61, pool_Check_S), (84, pool_own_S), (85, tag_Pack_S)]) Try.f74.ntmps [] (bodyOf Try.f74) (κ0 Try.prog Try.f74 true [⟨true, (.pair (.sl .int) (.pair (.sl .int) (.pair (.sl .int) (.sl .int))))⟩, ⟨false, .int⟩, ⟨false, .int⟩]), CutOk (fun _ _ _ _ => none) p := cutsNil (by kernel_rfl)
set_option maxRecDepth 5000000 in
theorem era_Turn_run (x : Tup [⟨true, (.pair .int (.sl .int))⟩]) : (pxFn Try.prog (lkΓ [(62, era_Check_S), (68, slices_Clone_S), (90000037, slices_ContainsFunc_era_Turn_1_S)]) [] Try.f81 (bodyOf Try.f81) true [⟨true, (.pair .int (.sl .int))⟩, ⟨false, .bool⟩] (encTup [⟨true, (.pair .int (.sl .int))⟩] x)).run (fun _ _ _ => none) = era_Turn x := by kernel_rfl
theorem era_Turn_cuts : ∀ p ∈ cuts Try.prog (lkΓ [(62, era_Check_S), (68, slices_Clone_S), (90000037, slices_ContainsFunc_era_Turn_1_S)]) Try.f81.ntmps [] (bodyOf Try.f81) (κ0 Try.prog Try.f81 true [⟨true, (.pair .int (.sl .int))⟩, ⟨false, .bool⟩]), CutOk (fun _ _ _ _ => none) p := cutsNil (by kernel_rfl)
set_option maxRecDepth 5000000 in
theorem era_Unpin_run (x : Tup [⟨true, (.pair .int (.sl .int))⟩, ⟨false, .int⟩]) : (pxFn Try.prog (lkΓ [(79, era_pinned_S), (80, era_with_S)]) [] Try.f71 (bodyOf Try.f71) true [⟨true, (.pair .int (.sl .int))⟩, ⟨false, .int⟩] (encTup [⟨true, (.pair .int (.sl .int))⟩, ⟨false, .int⟩] x)).run (fun _ _ _ => none) = era_Unpin x := by kernel_rfl
theorem era_Unpin_cuts : ∀ p ∈ cuts Try.prog (lkΓ [(79, era_pinned_S), (80, era_with_S)]) Try.f71.ntmps [] (bodyOf Try.f71) (κ0 Try.prog Try.f71 true [⟨true, (.pair .int (.sl .int))⟩, ⟨false, .int⟩]), CutOk (fun _ _ _ _ => none) p := cutsNil (by kernel_rfl)
set_option maxRecDepth 5000000 in
theorem era_with_run (x : Tup [⟨true, (.pair .int (.sl .int))⟩, ⟨false, .int⟩, ⟨false, .int⟩]) : (pxFn Try.prog (lkΓ [(68, slices_Clone_S)]) [] Try.f80 (bodyOf Try.f80) true [⟨true, (.pair .int (.sl .int))⟩] (encTup [⟨true, (.pair .int (.sl .int))⟩, ⟨false, .int⟩, ⟨false, .int⟩] x)).run (fun _ _ _ => none) = era_with x := by kernel_rfl
theorem era_with_cuts : ∀ p ∈ cuts Try.prog (lkΓ [(68, slices_Clone_S)]) Try.f80.ntmps [] (bodyOf Try.f80) (κ0 Try.prog Try.f80 true [⟨true, (.pair .int (.sl .int))⟩]), CutOk (fun _ _ _ _ => none) p := cutsNil (by kernel_rfl)
set_option maxRecDepth 5000000 in
theorem latch_Free_run (x : Tup [⟨false, .int⟩]) : (pxFn Try.prog (lkΓ [(28, latch_Held_S), (39, latch_Check_S)]) [] Try.f56 (bodyOf Try.f56) false [⟨false, .int⟩, ⟨false, .int⟩] (encTup [⟨false, .int⟩] x)).run (fun _ _ _ => none) = latch_Free x := by kernel_rfl
theorem latch_Free_cuts : ∀ p ∈ cuts Try.prog (lkΓ [(28, latch_Held_S), (39, latch_Check_S)]) Try.f56.ntmps [] (bodyOf Try.f56) (κ0 Try.prog Try.f56 false [⟨false, .int⟩, ⟨false, .int⟩]), CutOk (fun _ _ _ _ => none) p := cutsNil (by kernel_rfl)
set_option maxRecDepth 5000000 in
theorem era_Check_1_run (x : Tup [⟨false, .int⟩, ⟨false, (.ref (.pair .int (.sl .int)))⟩]) : (pxFn Try.prog (lkΓ []) [] Try.f76 (bodyOf Try.f76) false [⟨false, .bool⟩] (encTup [⟨false, .int⟩, ⟨false, (.ref (.pair .int (.sl .int)))⟩] x)).run (fun _ _ _ => none) = era_Check_1 x := by kernel_rfl
theorem era_Check_1_cuts : ∀ p ∈ cuts Try.prog (lkΓ []) Try.f76.ntmps [] (bodyOf Try.f76) (κ0 Try.prog Try.f76 false [⟨false, .bool⟩]), CutOk (fun _ _ _ _ => none) p := cutsNil (by kernel_rfl)
set_option maxRecDepth 5000000 in
theorem latch_Held_run (x : Tup [⟨false, .int⟩]) : (pxFn Try.prog (lkΓ [(39, latch_Check_S)]) [] Try.f28 (bodyOf Try.f28) false [⟨false, .bool⟩] (encTup [⟨false, .int⟩] x)).run (fun _ _ _ => none) = latch_Held x := by kernel_rfl
theorem latch_Held_cuts : ∀ p ∈ cuts Try.prog (lkΓ [(39, latch_Check_S)]) Try.f28.ntmps [] (bodyOf Try.f28) (κ0 Try.prog Try.f28 false [⟨false, .bool⟩]), CutOk (fun _ _ _ _ => none) p := cutsNil (by kernel_rfl)
end Go.Proofs.YtcoiboghdmmdcadFn
