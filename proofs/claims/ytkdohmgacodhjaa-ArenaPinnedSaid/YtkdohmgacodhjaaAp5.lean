/- What the interpreter of code computes of 'ArenaPinned' at 5 threads; no condition. -/
import Derived.Test.YtkdohmgacodhjaaProg
import Derived.KernelRfl
import Derived.Test.YtkdohmgacodhjaaPx25
import Derived.Test.YtkdohmgacodhjaaApD
set_option linter.unusedVariables false
set_option linter.unusedSimpArgs false
namespace Go.Proofs.YtkdohmgacodhjaaFn
open Go Go.RowKit Go.Proofs.YtkdohmgacodhjaaPx
set_option maxHeartbeats 0 in
set_option maxRecDepth 5000000 in
def tendrillaw07_ArenaPinned_5_P26v0 (k : Nat) (vs : List SV) (bs : List Blk) : Option (Option (Bool)) := match vs, bs with
  | [.val (.one (.int .i64 p0)), .val (.one (.ptr 0 0)), .val (.one (.bsl 1 0 5)), .val (.one (.row 2)), .val (.one (.row 3)), .val (.one (.sl .int p1)), .val (.one (.int .i64 p2)), .val (.one (.int .i64 p3))], [.box [(.sl .int p4), (.sl .int p5), (.sl .int p6), (.sl .int p7), (.sl .int p8), (.sl .int p9), (.sl .int p10), (.sl .int p11), (.sl .int p12), (.sl .int p13), (.sl .int p14), (.sl .int p15), (.sl .int p16), (.sl .int p17), (.int .i64 p18), (.sl .int p19)], .box [(.row 4), (.row 5), (.row 6), (.row 7), (.row 8)], .row .bool p20, .row (.pair .int .int) p21, .row (.pair .int .int) p22, .row (.pair .int .int) p23, .row (.pair .int .int) p24, .row (.pair .int .int) p25, .row (.pair .int .int) p26] => some (tendrillaw07_ArenaPinned_5_L26 k p0 p1 p2 p3 p4 p5 p6 p7 p8 p9 p10 p11 p12 p13 p14 p15 p16 p17 p18 p19 p20 p21 p22 p23 p24 p25 p26)
  | _, _ => none
set_option maxHeartbeats 0 in
set_option maxRecDepth 5000000 in
def tendrillaw07_ArenaPinned_5_P116v0 (k : Nat) (vs : List SV) (bs : List Blk) : Option (Option (Bool)) := match vs, bs with
  | [.val (.one (.int .i64 p0)), .val (.one (.ptr 0 0)), .val (.one (.bsl 1 0 5)), .val (.one (.row 2)), .val (.one (.row 3)), .val (.one (.int .i64 p1)), .val (.one (.int .i64 p2)), .val (.one (.int .i64 p3)), .val (.one (.sl .int p4)), .val (.one (.int .i64 p5)), .val (.one (.int .i64 p6)), .val (.one (.int .i64 p7)), .val (.one (.int .i64 p8))], [.box [(.sl .int p9), (.sl .int p10), (.sl .int p11), (.sl .int p12), (.sl .int p13), (.sl .int p14), (.sl .int p15), (.sl .int p16), (.sl .int p17), (.sl .int p18), (.sl .int p19), (.sl .int p20), (.sl .int p21), (.sl .int p22), (.int .i64 p23), (.sl .int p24)], .box [(.row 4), (.row 5), (.row 6), (.row 7), (.row 8)], .row .bool p25, .row (.pair .int .int) p26, .row (.pair .int .int) p27, .row (.pair .int .int) p28, .row (.pair .int .int) p29, .row (.pair .int .int) p30, .row (.pair .int .int) p31] => some (tendrillaw07_ArenaPinned_5_L116 k p0 p1 p2 p3 p4 p5 p6 p7 p8 p9 p10 p11 p12 p13 p14 p15 p16 p17 p18 p19 p20 p21 p22 p23 p24 p25 p26 p27 p28 p29 p30 p31)
  | _, _ => none
set_option maxHeartbeats 0 in
set_option maxRecDepth 5000000 in
def tendrillaw07_ArenaPinned_5_P62v0 (k : Nat) (vs : List SV) (bs : List Blk) : Option (Option (Bool)) := match vs, bs with
  | [.val (.one (.int .i64 p0)), .val (.one (.ptr 0 0)), .val (.one (.bsl 1 0 5)), .val (.one (.row 2)), .val (.one (.row 3)), .val (.one (.ptr 4 0)), .val (.one (.int .i64 p1)), .val (.one (.sl .int p2)), .val (.one (.int .i64 p3)), .val (.one (.int .i64 p4)), .val (.one (.int .i64 p5)), .val (.one (.int .i64 p6))], [.box [(.sl .int p7), (.sl .int p8), (.sl .int p9), (.sl .int p10), (.sl .int p11), (.sl .int p12), (.sl .int p13), (.sl .int p14), (.sl .int p15), (.sl .int p16), (.sl .int p17), (.sl .int p18), (.sl .int p19), (.sl .int p20), (.int .i64 p21), (.sl .int p22)], .box [(.row 5), (.row 6), (.row 7), (.row 8), (.row 9)], .row .bool p23, .row (.pair .int .int) p24, .box [(.int .i64 p25), (.int .i64 p26)], .row (.pair .int .int) p27, .row (.pair .int .int) p28, .row (.pair .int .int) p29, .row (.pair .int .int) p30, .row (.pair .int .int) p31] => some (tendrillaw07_ArenaPinned_5_L62 k p0 p1 p2 p3 p4 p5 p6 p7 p8 p9 p10 p11 p12 p13 p14 p15 p16 p17 p18 p19 p20 p21 p22 p23 p24 p25 p26 p27 p28 p29 p30 p31)
  | _, _ => none
set_option maxHeartbeats 0 in
set_option maxRecDepth 5000000 in
def tendrillaw07_ArenaPinned_5_P122v0 (k : Nat) (vs : List SV) (bs : List Blk) : Option (Option (Bool)) := match vs, bs with
  | [.val (.one (.int .i64 p0)), .val (.one (.ptr 0 0)), .val (.one (.bsl 1 0 5)), .val (.one (.row 2)), .val (.one (.row 3)), .val (.one (.int .i64 p1)), .val (.one (.int .i64 p2)), .val (.one (.int .i64 p3)), .val (.one (.int .i64 p4)), .val (.one (.sl .int p5)), .val (.one (.int .i64 p6)), .val (.one (.int .i64 p7)), .val (.one (.int .i64 p8)), .val (.one (.int .i64 p9)), .val (.one (.row 4)), .val (.one (.int .i64 p10)), .val (.one (.int .i64 p11))], [.box [(.sl .int p12), (.sl .int p13), (.sl .int p14), (.sl .int p15), (.sl .int p16), (.sl .int p17), (.sl .int p18), (.sl .int p19), (.sl .int p20), (.sl .int p21), (.sl .int p22), (.sl .int p23), (.sl .int p24), (.sl .int p25), (.int .i64 p26), (.sl .int p27)], .box [(.row 5), (.row 6), (.row 7), (.row 8), (.row 4)], .row .bool p28, .row (.pair .int .int) p29, .row (.pair .int .int) p30, .row (.pair .int .int) p31, .row (.pair .int .int) p32, .row (.pair .int .int) p33, .row (.pair .int .int) p34] => some (tendrillaw07_ArenaPinned_5_L122 k p0 p1 p2 p3 p4 p5 p6 p7 p8 p9 p10 p11 p12 p13 p14 p15 p16 p17 p18 p19 p20 p21 p22 p23 p24 p25 p26 p27 p28 p29 p30 p31 p32 p33 p34)
  | _, _ => none
set_option maxHeartbeats 0 in
set_option maxRecDepth 5000000 in
def tendrillaw07_ArenaPinned_5_P122v1 (k : Nat) (vs : List SV) (bs : List Blk) : Option (Option (Bool)) := match vs, bs with
  | [.val (.one (.int .i64 p0)), .val (.one (.ptr 0 0)), .val (.one (.bsl 1 0 5)), .val (.one (.row 2)), .val (.one (.row 3)), .val (.one (.int .i64 p1)), .val (.one (.int .i64 p2)), .val (.one (.int .i64 p3)), .val (.one (.int .i64 p4)), .val (.one (.sl .int p5)), .val (.one (.int .i64 p6)), .val (.one (.int .i64 p7)), .val (.one (.int .i64 p8)), .val (.one (.int .i64 p9)), .val (.one (.row 4)), .val (.one (.int .i64 p10)), .val (.one (.int .i64 p11))], [.box [(.sl .int p12), (.sl .int p13), (.sl .int p14), (.sl .int p15), (.sl .int p16), (.sl .int p17), (.sl .int p18), (.sl .int p19), (.sl .int p20), (.sl .int p21), (.sl .int p22), (.sl .int p23), (.sl .int p24), (.sl .int p25), (.int .i64 p26), (.sl .int p27)], .box [(.row 5), (.row 6), (.row 7), (.row 4), (.row 8)], .row .bool p28, .row (.pair .int .int) p29, .row (.pair .int .int) p30, .row (.pair .int .int) p31, .row (.pair .int .int) p32, .row (.pair .int .int) p33, .row (.pair .int .int) p34] => some (tendrillaw07_ArenaPinned_5_L122x1 k p0 p1 p2 p3 p4 p5 p6 p7 p8 p9 p10 p11 p12 p13 p14 p15 p16 p17 p18 p19 p20 p21 p22 p23 p24 p25 p26 p27 p28 p29 p30 p31 p32 p33 p34)
  | _, _ => none
set_option maxHeartbeats 0 in
set_option maxRecDepth 5000000 in
def tendrillaw07_ArenaPinned_5_P122v2 (k : Nat) (vs : List SV) (bs : List Blk) : Option (Option (Bool)) := match vs, bs with
  | [.val (.one (.int .i64 p0)), .val (.one (.ptr 0 0)), .val (.one (.bsl 1 0 5)), .val (.one (.row 2)), .val (.one (.row 3)), .val (.one (.int .i64 p1)), .val (.one (.int .i64 p2)), .val (.one (.int .i64 p3)), .val (.one (.int .i64 p4)), .val (.one (.sl .int p5)), .val (.one (.int .i64 p6)), .val (.one (.int .i64 p7)), .val (.one (.int .i64 p8)), .val (.one (.int .i64 p9)), .val (.one (.row 4)), .val (.one (.int .i64 p10)), .val (.one (.int .i64 p11))], [.box [(.sl .int p12), (.sl .int p13), (.sl .int p14), (.sl .int p15), (.sl .int p16), (.sl .int p17), (.sl .int p18), (.sl .int p19), (.sl .int p20), (.sl .int p21), (.sl .int p22), (.sl .int p23), (.sl .int p24), (.sl .int p25), (.int .i64 p26), (.sl .int p27)], .box [(.row 5), (.row 6), (.row 4), (.row 7), (.row 8)], .row .bool p28, .row (.pair .int .int) p29, .row (.pair .int .int) p30, .row (.pair .int .int) p31, .row (.pair .int .int) p32, .row (.pair .int .int) p33, .row (.pair .int .int) p34] => some (tendrillaw07_ArenaPinned_5_L122x2 k p0 p1 p2 p3 p4 p5 p6 p7 p8 p9 p10 p11 p12 p13 p14 p15 p16 p17 p18 p19 p20 p21 p22 p23 p24 p25 p26 p27 p28 p29 p30 p31 p32 p33 p34)
  | _, _ => none
set_option maxHeartbeats 0 in
set_option maxRecDepth 5000000 in
def tendrillaw07_ArenaPinned_5_P122v3 (k : Nat) (vs : List SV) (bs : List Blk) : Option (Option (Bool)) := match vs, bs with
  | [.val (.one (.int .i64 p0)), .val (.one (.ptr 0 0)), .val (.one (.bsl 1 0 5)), .val (.one (.row 2)), .val (.one (.row 3)), .val (.one (.int .i64 p1)), .val (.one (.int .i64 p2)), .val (.one (.int .i64 p3)), .val (.one (.int .i64 p4)), .val (.one (.sl .int p5)), .val (.one (.int .i64 p6)), .val (.one (.int .i64 p7)), .val (.one (.int .i64 p8)), .val (.one (.int .i64 p9)), .val (.one (.row 4)), .val (.one (.int .i64 p10)), .val (.one (.int .i64 p11))], [.box [(.sl .int p12), (.sl .int p13), (.sl .int p14), (.sl .int p15), (.sl .int p16), (.sl .int p17), (.sl .int p18), (.sl .int p19), (.sl .int p20), (.sl .int p21), (.sl .int p22), (.sl .int p23), (.sl .int p24), (.sl .int p25), (.int .i64 p26), (.sl .int p27)], .box [(.row 5), (.row 4), (.row 6), (.row 7), (.row 8)], .row .bool p28, .row (.pair .int .int) p29, .row (.pair .int .int) p30, .row (.pair .int .int) p31, .row (.pair .int .int) p32, .row (.pair .int .int) p33, .row (.pair .int .int) p34] => some (tendrillaw07_ArenaPinned_5_L122x3 k p0 p1 p2 p3 p4 p5 p6 p7 p8 p9 p10 p11 p12 p13 p14 p15 p16 p17 p18 p19 p20 p21 p22 p23 p24 p25 p26 p27 p28 p29 p30 p31 p32 p33 p34)
  | _, _ => none
set_option maxHeartbeats 0 in
set_option maxRecDepth 5000000 in
def tendrillaw07_ArenaPinned_5_P122v4 (k : Nat) (vs : List SV) (bs : List Blk) : Option (Option (Bool)) := match vs, bs with
  | [.val (.one (.int .i64 p0)), .val (.one (.ptr 0 0)), .val (.one (.bsl 1 0 5)), .val (.one (.row 2)), .val (.one (.row 3)), .val (.one (.int .i64 p1)), .val (.one (.int .i64 p2)), .val (.one (.int .i64 p3)), .val (.one (.int .i64 p4)), .val (.one (.sl .int p5)), .val (.one (.int .i64 p6)), .val (.one (.int .i64 p7)), .val (.one (.int .i64 p8)), .val (.one (.int .i64 p9)), .val (.one (.row 4)), .val (.one (.int .i64 p10)), .val (.one (.int .i64 p11))], [.box [(.sl .int p12), (.sl .int p13), (.sl .int p14), (.sl .int p15), (.sl .int p16), (.sl .int p17), (.sl .int p18), (.sl .int p19), (.sl .int p20), (.sl .int p21), (.sl .int p22), (.sl .int p23), (.sl .int p24), (.sl .int p25), (.int .i64 p26), (.sl .int p27)], .box [(.row 4), (.row 5), (.row 6), (.row 7), (.row 8)], .row .bool p28, .row (.pair .int .int) p29, .row (.pair .int .int) p30, .row (.pair .int .int) p31, .row (.pair .int .int) p32, .row (.pair .int .int) p33, .row (.pair .int .int) p34] => some (tendrillaw07_ArenaPinned_5_L122x4 k p0 p1 p2 p3 p4 p5 p6 p7 p8 p9 p10 p11 p12 p13 p14 p15 p16 p17 p18 p19 p20 p21 p22 p23 p24 p25 p26 p27 p28 p29 p30 p31 p32 p33 p34)
  | _, _ => none
def tendrillaw07_ArenaPinned_5_P26 (k : Nat) (vs : List SV) (bs : List Blk) : Option (Bool) := match tendrillaw07_ArenaPinned_5_P26v0 k vs bs with | some r => r | none => none
def tendrillaw07_ArenaPinned_5_P116 (k : Nat) (vs : List SV) (bs : List Blk) : Option (Bool) := match tendrillaw07_ArenaPinned_5_P116v0 k vs bs with | some r => r | none => none
def tendrillaw07_ArenaPinned_5_P62 (k : Nat) (vs : List SV) (bs : List Blk) : Option (Bool) := match tendrillaw07_ArenaPinned_5_P62v0 k vs bs with | some r => r | none => none
def tendrillaw07_ArenaPinned_5_P122 (k : Nat) (vs : List SV) (bs : List Blk) : Option (Bool) := match tendrillaw07_ArenaPinned_5_P122v0 k vs bs with | some r => r | none => match tendrillaw07_ArenaPinned_5_P122v1 k vs bs with | some r => r | none => match tendrillaw07_ArenaPinned_5_P122v2 k vs bs with | some r => r | none => match tendrillaw07_ArenaPinned_5_P122v3 k vs bs with | some r => r | none => match tendrillaw07_ArenaPinned_5_P122v4 k vs bs with | some r => r | none => none
def tendrillaw07_ArenaPinned_5_Λ (k L : Nat) (vs : List SV) (bs : List Blk) : Option (Bool) := match Nat.beq L 26 with | true => tendrillaw07_ArenaPinned_5_P26 k vs bs | false => match Nat.beq L 116 with | true => tendrillaw07_ArenaPinned_5_P116 k vs bs | false => match Nat.beq L 62 with | true => tendrillaw07_ArenaPinned_5_P62 k vs bs | false => match Nat.beq L 122 with | true => tendrillaw07_ArenaPinned_5_P122 k vs bs | false => none
noncomputable def tendrillaw07_ArenaPinned_5_C : List (Cut (Tup [⟨false, .bool⟩])) := cuts Try.prog (lkΓ [(4, tendrillaw07_live_S), (5, arena_New_S), (6, arena_Pin_S), (7, arena_End_S), (8, arena_Turn_S), (9, arena_Take_S), (10, tag_Unpack_S), (11, arena_Retire_S), (12, arena_Check_S), (flagK, flagN)]) Try.f3.ntmps [(122, [1, 7, 9, 10, 11, 16, 22, 24, 27, 68, 69, 70, 212, 213, 219, 220, 221]), (116, [1, 7, 9, 10, 11, 16, 22, 24, 68, 69, 70, 212, 213]), (62, [1, 7, 9, 10, 11, 31, 34, 68, 69, 70, 130, 131]), (26, [1, 7, 9, 10, 11, 68, 69, 70])] (bodyOf Try.f3) (κ0 Try.prog Try.f3 false [⟨false, .bool⟩])
set_option maxRecDepth 5000000 in
theorem tendrillaw07_ArenaPinned_5_c26 (k : Nat) (p0 : Int) (p1 : List Int) (p2 : Int) (p3 : Int) (p4 : List Int) (p5 : List Int) (p6 : List Int) (p7 : List Int) (p8 : List Int) (p9 : List Int) (p10 : List Int) (p11 : List Int) (p12 : List Int) (p13 : List Int) (p14 : List Int) (p15 : List Int) (p16 : List Int) (p17 : List Int) (p18 : Int) (p19 : List Int) (p20 : List Bool) (p21 : List (Int × Int)) (p22 : List (Int × Int)) (p23 : List (Int × Int)) (p24 : List (Int × Int)) (p25 : List (Int × Int)) (p26 : List (Int × Int)) : ((nthC tendrillaw07_ArenaPinned_5_C 0).g (mkSt [1, 7, 9, 10, 11, 68, 69, 70] [.val (.one (.int .i64 p0)), .val (.one (.ptr 0 0)), .val (.one (.bsl 1 0 5)), .val (.one (.row 2)), .val (.one (.row 3)), .val (.one (.sl .int p1)), .val (.one (.int .i64 p2)), .val (.one (.int .i64 p3))] [.box [(.sl .int p4), (.sl .int p5), (.sl .int p6), (.sl .int p7), (.sl .int p8), (.sl .int p9), (.sl .int p10), (.sl .int p11), (.sl .int p12), (.sl .int p13), (.sl .int p14), (.sl .int p15), (.sl .int p16), (.sl .int p17), (.int .i64 p18), (.sl .int p19)], .box [(.row 4), (.row 5), (.row 6), (.row 7), (.row 8)], .row .bool p20, .row (.pair .int .int) p21, .row (.pair .int .int) p22, .row (.pair .int .int) p23, .row (.pair .int .int) p24, .row (.pair .int .int) p25, .row (.pair .int .int) p26])).run (tendrillaw07_ArenaPinned_5_Λ k) = tendrillaw07_ArenaPinned_5_L26 (k + 1) p0 p1 p2 p3 p4 p5 p6 p7 p8 p9 p10 p11 p12 p13 p14 p15 p16 p17 p18 p19 p20 p21 p22 p23 p24 p25 p26 := by kernel_rfl
set_option maxHeartbeats 0 in
set_option maxRecDepth 5000000 in
theorem tendrillaw07_ArenaPinned_5_e26 (k : Nat) (vs : List SV) (bs : List Blk) (r : Bool) (h : tendrillaw07_ArenaPinned_5_P26v0 (k + 1) vs bs = some (some r)) : ((nthC tendrillaw07_ArenaPinned_5_C 0).g (mkSt [1, 7, 9, 10, 11, 68, 69, 70] vs bs)).run (tendrillaw07_ArenaPinned_5_Λ k) = some r := by
  unfold tendrillaw07_ArenaPinned_5_P26v0 at h
  split at h
  · exact (tendrillaw07_ArenaPinned_5_c26 k _ _ _ _ _ _ _ _ _ _ _ _ _ _ _ _ _ _ _ _ _ _ _ _ _ _ _).trans (Option.some.inj h)
  · cases h
set_option maxRecDepth 5000000 in
theorem tendrillaw07_ArenaPinned_5_c116 (k : Nat) (p0 : Int) (p1 : Int) (p2 : Int) (p3 : Int) (p4 : List Int) (p5 : Int) (p6 : Int) (p7 : Int) (p8 : Int) (p9 : List Int) (p10 : List Int) (p11 : List Int) (p12 : List Int) (p13 : List Int) (p14 : List Int) (p15 : List Int) (p16 : List Int) (p17 : List Int) (p18 : List Int) (p19 : List Int) (p20 : List Int) (p21 : List Int) (p22 : List Int) (p23 : Int) (p24 : List Int) (p25 : List Bool) (p26 : List (Int × Int)) (p27 : List (Int × Int)) (p28 : List (Int × Int)) (p29 : List (Int × Int)) (p30 : List (Int × Int)) (p31 : List (Int × Int)) : ((nthC tendrillaw07_ArenaPinned_5_C 1).g (mkSt [1, 7, 9, 10, 11, 16, 22, 24, 68, 69, 70, 212, 213] [.val (.one (.int .i64 p0)), .val (.one (.ptr 0 0)), .val (.one (.bsl 1 0 5)), .val (.one (.row 2)), .val (.one (.row 3)), .val (.one (.int .i64 p1)), .val (.one (.int .i64 p2)), .val (.one (.int .i64 p3)), .val (.one (.sl .int p4)), .val (.one (.int .i64 p5)), .val (.one (.int .i64 p6)), .val (.one (.int .i64 p7)), .val (.one (.int .i64 p8))] [.box [(.sl .int p9), (.sl .int p10), (.sl .int p11), (.sl .int p12), (.sl .int p13), (.sl .int p14), (.sl .int p15), (.sl .int p16), (.sl .int p17), (.sl .int p18), (.sl .int p19), (.sl .int p20), (.sl .int p21), (.sl .int p22), (.int .i64 p23), (.sl .int p24)], .box [(.row 4), (.row 5), (.row 6), (.row 7), (.row 8)], .row .bool p25, .row (.pair .int .int) p26, .row (.pair .int .int) p27, .row (.pair .int .int) p28, .row (.pair .int .int) p29, .row (.pair .int .int) p30, .row (.pair .int .int) p31])).run (tendrillaw07_ArenaPinned_5_Λ k) = tendrillaw07_ArenaPinned_5_L116 (k + 1) p0 p1 p2 p3 p4 p5 p6 p7 p8 p9 p10 p11 p12 p13 p14 p15 p16 p17 p18 p19 p20 p21 p22 p23 p24 p25 p26 p27 p28 p29 p30 p31 := by kernel_rfl
set_option maxHeartbeats 0 in
set_option maxRecDepth 5000000 in
theorem tendrillaw07_ArenaPinned_5_e116 (k : Nat) (vs : List SV) (bs : List Blk) (r : Bool) (h : tendrillaw07_ArenaPinned_5_P116v0 (k + 1) vs bs = some (some r)) : ((nthC tendrillaw07_ArenaPinned_5_C 1).g (mkSt [1, 7, 9, 10, 11, 16, 22, 24, 68, 69, 70, 212, 213] vs bs)).run (tendrillaw07_ArenaPinned_5_Λ k) = some r := by
  unfold tendrillaw07_ArenaPinned_5_P116v0 at h
  split at h
  · exact (tendrillaw07_ArenaPinned_5_c116 k _ _ _ _ _ _ _ _ _ _ _ _ _ _ _ _ _ _ _ _ _ _ _ _ _ _ _ _ _ _ _ _).trans (Option.some.inj h)
  · cases h
set_option maxRecDepth 5000000 in
theorem tendrillaw07_ArenaPinned_5_c62 (k : Nat) (p0 : Int) (p1 : Int) (p2 : List Int) (p3 : Int) (p4 : Int) (p5 : Int) (p6 : Int) (p7 : List Int) (p8 : List Int) (p9 : List Int) (p10 : List Int) (p11 : List Int) (p12 : List Int) (p13 : List Int) (p14 : List Int) (p15 : List Int) (p16 : List Int) (p17 : List Int) (p18 : List Int) (p19 : List Int) (p20 : List Int) (p21 : Int) (p22 : List Int) (p23 : List Bool) (p24 : List (Int × Int)) (p25 : Int) (p26 : Int) (p27 : List (Int × Int)) (p28 : List (Int × Int)) (p29 : List (Int × Int)) (p30 : List (Int × Int)) (p31 : List (Int × Int)) : ((nthC tendrillaw07_ArenaPinned_5_C 3).g (mkSt [1, 7, 9, 10, 11, 31, 34, 68, 69, 70, 130, 131] [.val (.one (.int .i64 p0)), .val (.one (.ptr 0 0)), .val (.one (.bsl 1 0 5)), .val (.one (.row 2)), .val (.one (.row 3)), .val (.one (.ptr 4 0)), .val (.one (.int .i64 p1)), .val (.one (.sl .int p2)), .val (.one (.int .i64 p3)), .val (.one (.int .i64 p4)), .val (.one (.int .i64 p5)), .val (.one (.int .i64 p6))] [.box [(.sl .int p7), (.sl .int p8), (.sl .int p9), (.sl .int p10), (.sl .int p11), (.sl .int p12), (.sl .int p13), (.sl .int p14), (.sl .int p15), (.sl .int p16), (.sl .int p17), (.sl .int p18), (.sl .int p19), (.sl .int p20), (.int .i64 p21), (.sl .int p22)], .box [(.row 5), (.row 6), (.row 7), (.row 8), (.row 9)], .row .bool p23, .row (.pair .int .int) p24, .box [(.int .i64 p25), (.int .i64 p26)], .row (.pair .int .int) p27, .row (.pair .int .int) p28, .row (.pair .int .int) p29, .row (.pair .int .int) p30, .row (.pair .int .int) p31])).run (tendrillaw07_ArenaPinned_5_Λ k) = tendrillaw07_ArenaPinned_5_L62 (k + 1) p0 p1 p2 p3 p4 p5 p6 p7 p8 p9 p10 p11 p12 p13 p14 p15 p16 p17 p18 p19 p20 p21 p22 p23 p24 p25 p26 p27 p28 p29 p30 p31 := by kernel_rfl
set_option maxHeartbeats 0 in
set_option maxRecDepth 5000000 in
theorem tendrillaw07_ArenaPinned_5_e62 (k : Nat) (vs : List SV) (bs : List Blk) (r : Bool) (h : tendrillaw07_ArenaPinned_5_P62v0 (k + 1) vs bs = some (some r)) : ((nthC tendrillaw07_ArenaPinned_5_C 3).g (mkSt [1, 7, 9, 10, 11, 31, 34, 68, 69, 70, 130, 131] vs bs)).run (tendrillaw07_ArenaPinned_5_Λ k) = some r := by
  unfold tendrillaw07_ArenaPinned_5_P62v0 at h
  split at h
  · exact (tendrillaw07_ArenaPinned_5_c62 k _ _ _ _ _ _ _ _ _ _ _ _ _ _ _ _ _ _ _ _ _ _ _ _ _ _ _ _ _ _ _ _).trans (Option.some.inj h)
  · cases h
set_option maxRecDepth 5000000 in
theorem tendrillaw07_ArenaPinned_5_c122 (k : Nat) (p0 : Int) (p1 : Int) (p2 : Int) (p3 : Int) (p4 : Int) (p5 : List Int) (p6 : Int) (p7 : Int) (p8 : Int) (p9 : Int) (p10 : Int) (p11 : Int) (p12 : List Int) (p13 : List Int) (p14 : List Int) (p15 : List Int) (p16 : List Int) (p17 : List Int) (p18 : List Int) (p19 : List Int) (p20 : List Int) (p21 : List Int) (p22 : List Int) (p23 : List Int) (p24 : List Int) (p25 : List Int) (p26 : Int) (p27 : List Int) (p28 : List Bool) (p29 : List (Int × Int)) (p30 : List (Int × Int)) (p31 : List (Int × Int)) (p32 : List (Int × Int)) (p33 : List (Int × Int)) (p34 : List (Int × Int)) : ((nthC tendrillaw07_ArenaPinned_5_C 2).g (mkSt [1, 7, 9, 10, 11, 16, 22, 24, 27, 68, 69, 70, 212, 213, 219, 220, 221] [.val (.one (.int .i64 p0)), .val (.one (.ptr 0 0)), .val (.one (.bsl 1 0 5)), .val (.one (.row 2)), .val (.one (.row 3)), .val (.one (.int .i64 p1)), .val (.one (.int .i64 p2)), .val (.one (.int .i64 p3)), .val (.one (.int .i64 p4)), .val (.one (.sl .int p5)), .val (.one (.int .i64 p6)), .val (.one (.int .i64 p7)), .val (.one (.int .i64 p8)), .val (.one (.int .i64 p9)), .val (.one (.row 4)), .val (.one (.int .i64 p10)), .val (.one (.int .i64 p11))] [.box [(.sl .int p12), (.sl .int p13), (.sl .int p14), (.sl .int p15), (.sl .int p16), (.sl .int p17), (.sl .int p18), (.sl .int p19), (.sl .int p20), (.sl .int p21), (.sl .int p22), (.sl .int p23), (.sl .int p24), (.sl .int p25), (.int .i64 p26), (.sl .int p27)], .box [(.row 5), (.row 6), (.row 7), (.row 8), (.row 4)], .row .bool p28, .row (.pair .int .int) p29, .row (.pair .int .int) p30, .row (.pair .int .int) p31, .row (.pair .int .int) p32, .row (.pair .int .int) p33, .row (.pair .int .int) p34])).run (tendrillaw07_ArenaPinned_5_Λ k) = tendrillaw07_ArenaPinned_5_L122 (k + 1) p0 p1 p2 p3 p4 p5 p6 p7 p8 p9 p10 p11 p12 p13 p14 p15 p16 p17 p18 p19 p20 p21 p22 p23 p24 p25 p26 p27 p28 p29 p30 p31 p32 p33 p34 := by kernel_rfl
set_option maxHeartbeats 0 in
set_option maxRecDepth 5000000 in
theorem tendrillaw07_ArenaPinned_5_e122 (k : Nat) (vs : List SV) (bs : List Blk) (r : Bool) (h : tendrillaw07_ArenaPinned_5_P122v0 (k + 1) vs bs = some (some r)) : ((nthC tendrillaw07_ArenaPinned_5_C 2).g (mkSt [1, 7, 9, 10, 11, 16, 22, 24, 27, 68, 69, 70, 212, 213, 219, 220, 221] vs bs)).run (tendrillaw07_ArenaPinned_5_Λ k) = some r := by
  unfold tendrillaw07_ArenaPinned_5_P122v0 at h
  split at h
  · exact (tendrillaw07_ArenaPinned_5_c122 k _ _ _ _ _ _ _ _ _ _ _ _ _ _ _ _ _ _ _ _ _ _ _ _ _ _ _ _ _ _ _ _ _ _ _).trans (Option.some.inj h)
  · cases h
set_option maxRecDepth 5000000 in
theorem tendrillaw07_ArenaPinned_5_c122x1 (k : Nat) (p0 : Int) (p1 : Int) (p2 : Int) (p3 : Int) (p4 : Int) (p5 : List Int) (p6 : Int) (p7 : Int) (p8 : Int) (p9 : Int) (p10 : Int) (p11 : Int) (p12 : List Int) (p13 : List Int) (p14 : List Int) (p15 : List Int) (p16 : List Int) (p17 : List Int) (p18 : List Int) (p19 : List Int) (p20 : List Int) (p21 : List Int) (p22 : List Int) (p23 : List Int) (p24 : List Int) (p25 : List Int) (p26 : Int) (p27 : List Int) (p28 : List Bool) (p29 : List (Int × Int)) (p30 : List (Int × Int)) (p31 : List (Int × Int)) (p32 : List (Int × Int)) (p33 : List (Int × Int)) (p34 : List (Int × Int)) : ((nthC tendrillaw07_ArenaPinned_5_C 2).g (mkSt [1, 7, 9, 10, 11, 16, 22, 24, 27, 68, 69, 70, 212, 213, 219, 220, 221] [.val (.one (.int .i64 p0)), .val (.one (.ptr 0 0)), .val (.one (.bsl 1 0 5)), .val (.one (.row 2)), .val (.one (.row 3)), .val (.one (.int .i64 p1)), .val (.one (.int .i64 p2)), .val (.one (.int .i64 p3)), .val (.one (.int .i64 p4)), .val (.one (.sl .int p5)), .val (.one (.int .i64 p6)), .val (.one (.int .i64 p7)), .val (.one (.int .i64 p8)), .val (.one (.int .i64 p9)), .val (.one (.row 4)), .val (.one (.int .i64 p10)), .val (.one (.int .i64 p11))] [.box [(.sl .int p12), (.sl .int p13), (.sl .int p14), (.sl .int p15), (.sl .int p16), (.sl .int p17), (.sl .int p18), (.sl .int p19), (.sl .int p20), (.sl .int p21), (.sl .int p22), (.sl .int p23), (.sl .int p24), (.sl .int p25), (.int .i64 p26), (.sl .int p27)], .box [(.row 5), (.row 6), (.row 7), (.row 4), (.row 8)], .row .bool p28, .row (.pair .int .int) p29, .row (.pair .int .int) p30, .row (.pair .int .int) p31, .row (.pair .int .int) p32, .row (.pair .int .int) p33, .row (.pair .int .int) p34])).run (tendrillaw07_ArenaPinned_5_Λ k) = tendrillaw07_ArenaPinned_5_L122x1 (k + 1) p0 p1 p2 p3 p4 p5 p6 p7 p8 p9 p10 p11 p12 p13 p14 p15 p16 p17 p18 p19 p20 p21 p22 p23 p24 p25 p26 p27 p28 p29 p30 p31 p32 p33 p34 := by kernel_rfl
set_option maxHeartbeats 0 in
set_option maxRecDepth 5000000 in
theorem tendrillaw07_ArenaPinned_5_e122x1 (k : Nat) (vs : List SV) (bs : List Blk) (r : Bool) (h : tendrillaw07_ArenaPinned_5_P122v1 (k + 1) vs bs = some (some r)) : ((nthC tendrillaw07_ArenaPinned_5_C 2).g (mkSt [1, 7, 9, 10, 11, 16, 22, 24, 27, 68, 69, 70, 212, 213, 219, 220, 221] vs bs)).run (tendrillaw07_ArenaPinned_5_Λ k) = some r := by
  unfold tendrillaw07_ArenaPinned_5_P122v1 at h
  split at h
  · exact (tendrillaw07_ArenaPinned_5_c122x1 k _ _ _ _ _ _ _ _ _ _ _ _ _ _ _ _ _ _ _ _ _ _ _ _ _ _ _ _ _ _ _ _ _ _ _).trans (Option.some.inj h)
  · cases h
set_option maxRecDepth 5000000 in
theorem tendrillaw07_ArenaPinned_5_c122x2 (k : Nat) (p0 : Int) (p1 : Int) (p2 : Int) (p3 : Int) (p4 : Int) (p5 : List Int) (p6 : Int) (p7 : Int) (p8 : Int) (p9 : Int) (p10 : Int) (p11 : Int) (p12 : List Int) (p13 : List Int) (p14 : List Int) (p15 : List Int) (p16 : List Int) (p17 : List Int) (p18 : List Int) (p19 : List Int) (p20 : List Int) (p21 : List Int) (p22 : List Int) (p23 : List Int) (p24 : List Int) (p25 : List Int) (p26 : Int) (p27 : List Int) (p28 : List Bool) (p29 : List (Int × Int)) (p30 : List (Int × Int)) (p31 : List (Int × Int)) (p32 : List (Int × Int)) (p33 : List (Int × Int)) (p34 : List (Int × Int)) : ((nthC tendrillaw07_ArenaPinned_5_C 2).g (mkSt [1, 7, 9, 10, 11, 16, 22, 24, 27, 68, 69, 70, 212, 213, 219, 220, 221] [.val (.one (.int .i64 p0)), .val (.one (.ptr 0 0)), .val (.one (.bsl 1 0 5)), .val (.one (.row 2)), .val (.one (.row 3)), .val (.one (.int .i64 p1)), .val (.one (.int .i64 p2)), .val (.one (.int .i64 p3)), .val (.one (.int .i64 p4)), .val (.one (.sl .int p5)), .val (.one (.int .i64 p6)), .val (.one (.int .i64 p7)), .val (.one (.int .i64 p8)), .val (.one (.int .i64 p9)), .val (.one (.row 4)), .val (.one (.int .i64 p10)), .val (.one (.int .i64 p11))] [.box [(.sl .int p12), (.sl .int p13), (.sl .int p14), (.sl .int p15), (.sl .int p16), (.sl .int p17), (.sl .int p18), (.sl .int p19), (.sl .int p20), (.sl .int p21), (.sl .int p22), (.sl .int p23), (.sl .int p24), (.sl .int p25), (.int .i64 p26), (.sl .int p27)], .box [(.row 5), (.row 6), (.row 4), (.row 7), (.row 8)], .row .bool p28, .row (.pair .int .int) p29, .row (.pair .int .int) p30, .row (.pair .int .int) p31, .row (.pair .int .int) p32, .row (.pair .int .int) p33, .row (.pair .int .int) p34])).run (tendrillaw07_ArenaPinned_5_Λ k) = tendrillaw07_ArenaPinned_5_L122x2 (k + 1) p0 p1 p2 p3 p4 p5 p6 p7 p8 p9 p10 p11 p12 p13 p14 p15 p16 p17 p18 p19 p20 p21 p22 p23 p24 p25 p26 p27 p28 p29 p30 p31 p32 p33 p34 := by kernel_rfl
set_option maxHeartbeats 0 in
set_option maxRecDepth 5000000 in
theorem tendrillaw07_ArenaPinned_5_e122x2 (k : Nat) (vs : List SV) (bs : List Blk) (r : Bool) (h : tendrillaw07_ArenaPinned_5_P122v2 (k + 1) vs bs = some (some r)) : ((nthC tendrillaw07_ArenaPinned_5_C 2).g (mkSt [1, 7, 9, 10, 11, 16, 22, 24, 27, 68, 69, 70, 212, 213, 219, 220, 221] vs bs)).run (tendrillaw07_ArenaPinned_5_Λ k) = some r := by
  unfold tendrillaw07_ArenaPinned_5_P122v2 at h
  split at h
  · exact (tendrillaw07_ArenaPinned_5_c122x2 k _ _ _ _ _ _ _ _ _ _ _ _ _ _ _ _ _ _ _ _ _ _ _ _ _ _ _ _ _ _ _ _ _ _ _).trans (Option.some.inj h)
  · cases h
set_option maxRecDepth 5000000 in
theorem tendrillaw07_ArenaPinned_5_c122x3 (k : Nat) (p0 : Int) (p1 : Int) (p2 : Int) (p3 : Int) (p4 : Int) (p5 : List Int) (p6 : Int) (p7 : Int) (p8 : Int) (p9 : Int) (p10 : Int) (p11 : Int) (p12 : List Int) (p13 : List Int) (p14 : List Int) (p15 : List Int) (p16 : List Int) (p17 : List Int) (p18 : List Int) (p19 : List Int) (p20 : List Int) (p21 : List Int) (p22 : List Int) (p23 : List Int) (p24 : List Int) (p25 : List Int) (p26 : Int) (p27 : List Int) (p28 : List Bool) (p29 : List (Int × Int)) (p30 : List (Int × Int)) (p31 : List (Int × Int)) (p32 : List (Int × Int)) (p33 : List (Int × Int)) (p34 : List (Int × Int)) : ((nthC tendrillaw07_ArenaPinned_5_C 2).g (mkSt [1, 7, 9, 10, 11, 16, 22, 24, 27, 68, 69, 70, 212, 213, 219, 220, 221] [.val (.one (.int .i64 p0)), .val (.one (.ptr 0 0)), .val (.one (.bsl 1 0 5)), .val (.one (.row 2)), .val (.one (.row 3)), .val (.one (.int .i64 p1)), .val (.one (.int .i64 p2)), .val (.one (.int .i64 p3)), .val (.one (.int .i64 p4)), .val (.one (.sl .int p5)), .val (.one (.int .i64 p6)), .val (.one (.int .i64 p7)), .val (.one (.int .i64 p8)), .val (.one (.int .i64 p9)), .val (.one (.row 4)), .val (.one (.int .i64 p10)), .val (.one (.int .i64 p11))] [.box [(.sl .int p12), (.sl .int p13), (.sl .int p14), (.sl .int p15), (.sl .int p16), (.sl .int p17), (.sl .int p18), (.sl .int p19), (.sl .int p20), (.sl .int p21), (.sl .int p22), (.sl .int p23), (.sl .int p24), (.sl .int p25), (.int .i64 p26), (.sl .int p27)], .box [(.row 5), (.row 4), (.row 6), (.row 7), (.row 8)], .row .bool p28, .row (.pair .int .int) p29, .row (.pair .int .int) p30, .row (.pair .int .int) p31, .row (.pair .int .int) p32, .row (.pair .int .int) p33, .row (.pair .int .int) p34])).run (tendrillaw07_ArenaPinned_5_Λ k) = tendrillaw07_ArenaPinned_5_L122x3 (k + 1) p0 p1 p2 p3 p4 p5 p6 p7 p8 p9 p10 p11 p12 p13 p14 p15 p16 p17 p18 p19 p20 p21 p22 p23 p24 p25 p26 p27 p28 p29 p30 p31 p32 p33 p34 := by kernel_rfl
set_option maxHeartbeats 0 in
set_option maxRecDepth 5000000 in
theorem tendrillaw07_ArenaPinned_5_e122x3 (k : Nat) (vs : List SV) (bs : List Blk) (r : Bool) (h : tendrillaw07_ArenaPinned_5_P122v3 (k + 1) vs bs = some (some r)) : ((nthC tendrillaw07_ArenaPinned_5_C 2).g (mkSt [1, 7, 9, 10, 11, 16, 22, 24, 27, 68, 69, 70, 212, 213, 219, 220, 221] vs bs)).run (tendrillaw07_ArenaPinned_5_Λ k) = some r := by
  unfold tendrillaw07_ArenaPinned_5_P122v3 at h
  split at h
  · exact (tendrillaw07_ArenaPinned_5_c122x3 k _ _ _ _ _ _ _ _ _ _ _ _ _ _ _ _ _ _ _ _ _ _ _ _ _ _ _ _ _ _ _ _ _ _ _).trans (Option.some.inj h)
  · cases h
set_option maxRecDepth 5000000 in
theorem tendrillaw07_ArenaPinned_5_c122x4 (k : Nat) (p0 : Int) (p1 : Int) (p2 : Int) (p3 : Int) (p4 : Int) (p5 : List Int) (p6 : Int) (p7 : Int) (p8 : Int) (p9 : Int) (p10 : Int) (p11 : Int) (p12 : List Int) (p13 : List Int) (p14 : List Int) (p15 : List Int) (p16 : List Int) (p17 : List Int) (p18 : List Int) (p19 : List Int) (p20 : List Int) (p21 : List Int) (p22 : List Int) (p23 : List Int) (p24 : List Int) (p25 : List Int) (p26 : Int) (p27 : List Int) (p28 : List Bool) (p29 : List (Int × Int)) (p30 : List (Int × Int)) (p31 : List (Int × Int)) (p32 : List (Int × Int)) (p33 : List (Int × Int)) (p34 : List (Int × Int)) : ((nthC tendrillaw07_ArenaPinned_5_C 2).g (mkSt [1, 7, 9, 10, 11, 16, 22, 24, 27, 68, 69, 70, 212, 213, 219, 220, 221] [.val (.one (.int .i64 p0)), .val (.one (.ptr 0 0)), .val (.one (.bsl 1 0 5)), .val (.one (.row 2)), .val (.one (.row 3)), .val (.one (.int .i64 p1)), .val (.one (.int .i64 p2)), .val (.one (.int .i64 p3)), .val (.one (.int .i64 p4)), .val (.one (.sl .int p5)), .val (.one (.int .i64 p6)), .val (.one (.int .i64 p7)), .val (.one (.int .i64 p8)), .val (.one (.int .i64 p9)), .val (.one (.row 4)), .val (.one (.int .i64 p10)), .val (.one (.int .i64 p11))] [.box [(.sl .int p12), (.sl .int p13), (.sl .int p14), (.sl .int p15), (.sl .int p16), (.sl .int p17), (.sl .int p18), (.sl .int p19), (.sl .int p20), (.sl .int p21), (.sl .int p22), (.sl .int p23), (.sl .int p24), (.sl .int p25), (.int .i64 p26), (.sl .int p27)], .box [(.row 4), (.row 5), (.row 6), (.row 7), (.row 8)], .row .bool p28, .row (.pair .int .int) p29, .row (.pair .int .int) p30, .row (.pair .int .int) p31, .row (.pair .int .int) p32, .row (.pair .int .int) p33, .row (.pair .int .int) p34])).run (tendrillaw07_ArenaPinned_5_Λ k) = tendrillaw07_ArenaPinned_5_L122x4 (k + 1) p0 p1 p2 p3 p4 p5 p6 p7 p8 p9 p10 p11 p12 p13 p14 p15 p16 p17 p18 p19 p20 p21 p22 p23 p24 p25 p26 p27 p28 p29 p30 p31 p32 p33 p34 := by kernel_rfl
set_option maxHeartbeats 0 in
set_option maxRecDepth 5000000 in
theorem tendrillaw07_ArenaPinned_5_e122x4 (k : Nat) (vs : List SV) (bs : List Blk) (r : Bool) (h : tendrillaw07_ArenaPinned_5_P122v4 (k + 1) vs bs = some (some r)) : ((nthC tendrillaw07_ArenaPinned_5_C 2).g (mkSt [1, 7, 9, 10, 11, 16, 22, 24, 27, 68, 69, 70, 212, 213, 219, 220, 221] vs bs)).run (tendrillaw07_ArenaPinned_5_Λ k) = some r := by
  unfold tendrillaw07_ArenaPinned_5_P122v4 at h
  split at h
  · exact (tendrillaw07_ArenaPinned_5_c122x4 k _ _ _ _ _ _ _ _ _ _ _ _ _ _ _ _ _ _ _ _ _ _ _ _ _ _ _ _ _ _ _ _ _ _ _).trans (Option.some.inj h)
  · cases h
theorem tendrillaw07_ArenaPinned_5_d26 : CutOk tendrillaw07_ArenaPinned_5_Λ (nthC tendrillaw07_ArenaPinned_5_C 0) := by
  refine cutOk_of (L := 26) (live := [1, 7, 9, 10, 11, 68, 69, 70]) (by kernel_rfl) (by kernel_rfl) fun k vs bs r h => ?_
  change tendrillaw07_ArenaPinned_5_P26 (k + 1) vs bs = some r at h
  unfold tendrillaw07_ArenaPinned_5_P26 at h
  split at h
  · rename_i q hq
    exact tendrillaw07_ArenaPinned_5_e26 k vs bs r (hq.trans (congrArg some h))
  cases h
theorem tendrillaw07_ArenaPinned_5_d116 : CutOk tendrillaw07_ArenaPinned_5_Λ (nthC tendrillaw07_ArenaPinned_5_C 1) := by
  refine cutOk_of (L := 116) (live := [1, 7, 9, 10, 11, 16, 22, 24, 68, 69, 70, 212, 213]) (by kernel_rfl) (by kernel_rfl) fun k vs bs r h => ?_
  change tendrillaw07_ArenaPinned_5_P116 (k + 1) vs bs = some r at h
  unfold tendrillaw07_ArenaPinned_5_P116 at h
  split at h
  · rename_i q hq
    exact tendrillaw07_ArenaPinned_5_e116 k vs bs r (hq.trans (congrArg some h))
  cases h
theorem tendrillaw07_ArenaPinned_5_d62 : CutOk tendrillaw07_ArenaPinned_5_Λ (nthC tendrillaw07_ArenaPinned_5_C 3) := by
  refine cutOk_of (L := 62) (live := [1, 7, 9, 10, 11, 31, 34, 68, 69, 70, 130, 131]) (by kernel_rfl) (by kernel_rfl) fun k vs bs r h => ?_
  change tendrillaw07_ArenaPinned_5_P62 (k + 1) vs bs = some r at h
  unfold tendrillaw07_ArenaPinned_5_P62 at h
  split at h
  · rename_i q hq
    exact tendrillaw07_ArenaPinned_5_e62 k vs bs r (hq.trans (congrArg some h))
  cases h
theorem tendrillaw07_ArenaPinned_5_d122 : CutOk tendrillaw07_ArenaPinned_5_Λ (nthC tendrillaw07_ArenaPinned_5_C 2) := by
  refine cutOk_of (L := 122) (live := [1, 7, 9, 10, 11, 16, 22, 24, 27, 68, 69, 70, 212, 213, 219, 220, 221]) (by kernel_rfl) (by kernel_rfl) fun k vs bs r h => ?_
  change tendrillaw07_ArenaPinned_5_P122 (k + 1) vs bs = some r at h
  unfold tendrillaw07_ArenaPinned_5_P122 at h
  split at h
  · rename_i q hq
    exact tendrillaw07_ArenaPinned_5_e122 k vs bs r (hq.trans (congrArg some h))
  split at h
  · rename_i q hq
    exact tendrillaw07_ArenaPinned_5_e122x1 k vs bs r (hq.trans (congrArg some h))
  split at h
  · rename_i q hq
    exact tendrillaw07_ArenaPinned_5_e122x2 k vs bs r (hq.trans (congrArg some h))
  split at h
  · rename_i q hq
    exact tendrillaw07_ArenaPinned_5_e122x3 k vs bs r (hq.trans (congrArg some h))
  split at h
  · rename_i q hq
    exact tendrillaw07_ArenaPinned_5_e122x4 k vs bs r (hq.trans (congrArg some h))
  cases h
theorem tendrillaw07_ArenaPinned_5_cuts : ∀ p ∈ cuts Try.prog (lkΓ [(4, tendrillaw07_live_S), (5, arena_New_S), (6, arena_Pin_S), (7, arena_End_S), (8, arena_Turn_S), (9, arena_Take_S), (10, tag_Unpack_S), (11, arena_Retire_S), (12, arena_Check_S), (flagK, flagN)]) Try.f3.ntmps [(122, [1, 7, 9, 10, 11, 16, 22, 24, 27, 68, 69, 70, 212, 213, 219, 220, 221]), (116, [1, 7, 9, 10, 11, 16, 22, 24, 68, 69, 70, 212, 213]), (62, [1, 7, 9, 10, 11, 31, 34, 68, 69, 70, 130, 131]), (26, [1, 7, 9, 10, 11, 68, 69, 70])] (bodyOf Try.f3) (κ0 Try.prog Try.f3 false [⟨false, .bool⟩]), CutOk tendrillaw07_ArenaPinned_5_Λ p := cutsOk (l := tendrillaw07_ArenaPinned_5_C) (n := 4) (by kernel_rfl) fun
  | 0, _ => tendrillaw07_ArenaPinned_5_d26
  | 1, _ => tendrillaw07_ArenaPinned_5_d116
  | 2, _ => tendrillaw07_ArenaPinned_5_d122
  | 3, _ => tendrillaw07_ArenaPinned_5_d62
  | k + 4, h => absurd h (by omega)
set_option maxHeartbeats 0 in
set_option maxRecDepth 5000000 in
theorem tendrillaw07_ArenaPinned_5_z26 (vs : List SV) (bs : List Blk) (q : Option (Bool)) (h : tendrillaw07_ArenaPinned_5_P26v0 0 vs bs = some q) : q = none := by
  unfold tendrillaw07_ArenaPinned_5_P26v0 at h; split at h
  · have h := Option.some.inj h; rw [← h]; first | rfl | (unfold tendrillaw07_ArenaPinned_5_L26; rfl)
  · cases h
set_option maxHeartbeats 0 in
set_option maxRecDepth 5000000 in
theorem tendrillaw07_ArenaPinned_5_z116 (vs : List SV) (bs : List Blk) (q : Option (Bool)) (h : tendrillaw07_ArenaPinned_5_P116v0 0 vs bs = some q) : q = none := by
  unfold tendrillaw07_ArenaPinned_5_P116v0 at h; split at h
  · have h := Option.some.inj h; rw [← h]; first | rfl | (unfold tendrillaw07_ArenaPinned_5_L116; rfl)
  · cases h
set_option maxHeartbeats 0 in
set_option maxRecDepth 5000000 in
theorem tendrillaw07_ArenaPinned_5_z62 (vs : List SV) (bs : List Blk) (q : Option (Bool)) (h : tendrillaw07_ArenaPinned_5_P62v0 0 vs bs = some q) : q = none := by
  unfold tendrillaw07_ArenaPinned_5_P62v0 at h; split at h
  · have h := Option.some.inj h; rw [← h]; first | rfl | (unfold tendrillaw07_ArenaPinned_5_L62; rfl)
  · cases h
set_option maxHeartbeats 0 in
set_option maxRecDepth 5000000 in
theorem tendrillaw07_ArenaPinned_5_z122 (vs : List SV) (bs : List Blk) (q : Option (Bool)) (h : tendrillaw07_ArenaPinned_5_P122v0 0 vs bs = some q) : q = none := by
  unfold tendrillaw07_ArenaPinned_5_P122v0 at h; split at h
  · have h := Option.some.inj h; rw [← h]; first | rfl | (unfold tendrillaw07_ArenaPinned_5_L122; rfl)
  · cases h
set_option maxHeartbeats 0 in
set_option maxRecDepth 5000000 in
theorem tendrillaw07_ArenaPinned_5_z122x1 (vs : List SV) (bs : List Blk) (q : Option (Bool)) (h : tendrillaw07_ArenaPinned_5_P122v1 0 vs bs = some q) : q = none := by
  unfold tendrillaw07_ArenaPinned_5_P122v1 at h; split at h
  · have h := Option.some.inj h; rw [← h]; first | rfl | (unfold tendrillaw07_ArenaPinned_5_L122x1; rfl)
  · cases h
set_option maxHeartbeats 0 in
set_option maxRecDepth 5000000 in
theorem tendrillaw07_ArenaPinned_5_z122x2 (vs : List SV) (bs : List Blk) (q : Option (Bool)) (h : tendrillaw07_ArenaPinned_5_P122v2 0 vs bs = some q) : q = none := by
  unfold tendrillaw07_ArenaPinned_5_P122v2 at h; split at h
  · have h := Option.some.inj h; rw [← h]; first | rfl | (unfold tendrillaw07_ArenaPinned_5_L122x2; rfl)
  · cases h
set_option maxHeartbeats 0 in
set_option maxRecDepth 5000000 in
theorem tendrillaw07_ArenaPinned_5_z122x3 (vs : List SV) (bs : List Blk) (q : Option (Bool)) (h : tendrillaw07_ArenaPinned_5_P122v3 0 vs bs = some q) : q = none := by
  unfold tendrillaw07_ArenaPinned_5_P122v3 at h; split at h
  · have h := Option.some.inj h; rw [← h]; first | rfl | (unfold tendrillaw07_ArenaPinned_5_L122x3; rfl)
  · cases h
set_option maxHeartbeats 0 in
set_option maxRecDepth 5000000 in
theorem tendrillaw07_ArenaPinned_5_z122x4 (vs : List SV) (bs : List Blk) (q : Option (Bool)) (h : tendrillaw07_ArenaPinned_5_P122v4 0 vs bs = some q) : q = none := by
  unfold tendrillaw07_ArenaPinned_5_P122v4 at h; split at h
  · have h := Option.some.inj h; rw [← h]; first | rfl | (unfold tendrillaw07_ArenaPinned_5_L122x4; rfl)
  · cases h
theorem tendrillaw07_ArenaPinned_5_Λ0 (L : Nat) (vs : List SV) (bs : List Blk) : tendrillaw07_ArenaPinned_5_Λ 0 L vs bs = none := by
  unfold tendrillaw07_ArenaPinned_5_Λ
  split
  · unfold tendrillaw07_ArenaPinned_5_P26
    split
    · rename_i q hq; exact tendrillaw07_ArenaPinned_5_z26 _ _ q hq
    rfl
  split
  · unfold tendrillaw07_ArenaPinned_5_P116
    split
    · rename_i q hq; exact tendrillaw07_ArenaPinned_5_z116 _ _ q hq
    rfl
  split
  · unfold tendrillaw07_ArenaPinned_5_P62
    split
    · rename_i q hq; exact tendrillaw07_ArenaPinned_5_z62 _ _ q hq
    rfl
  split
  · unfold tendrillaw07_ArenaPinned_5_P122
    split
    · rename_i q hq; exact tendrillaw07_ArenaPinned_5_z122 _ _ q hq
    split
    · rename_i q hq; exact tendrillaw07_ArenaPinned_5_z122x1 _ _ q hq
    split
    · rename_i q hq; exact tendrillaw07_ArenaPinned_5_z122x2 _ _ q hq
    split
    · rename_i q hq; exact tendrillaw07_ArenaPinned_5_z122x3 _ _ q hq
    split
    · rename_i q hq; exact tendrillaw07_ArenaPinned_5_z122x4 _ _ q hq
    rfl
  rfl
set_option maxRecDepth 5000000 in
theorem tendrillaw07_ArenaPinned_5_run (K : Nat) (x : Tup [⟨true, (.pair .int (.pair .int (.pair .int (.pair .int .int))))⟩, ⟨false, (.sl .int)⟩]) : (pxFn Try.prog (lkΓ [(4, tendrillaw07_live_S), (5, arena_New_S), (6, arena_Pin_S), (7, arena_End_S), (8, arena_Turn_S), (9, arena_Take_S), (10, tag_Unpack_S), (11, arena_Retire_S), (12, arena_Check_S), (flagK, flagN)]) [(122, [1, 7, 9, 10, 11, 16, 22, 24, 27, 68, 69, 70, 212, 213, 219, 220, 221]), (116, [1, 7, 9, 10, 11, 16, 22, 24, 68, 69, 70, 212, 213]), (62, [1, 7, 9, 10, 11, 31, 34, 68, 69, 70, 130, 131]), (26, [1, 7, 9, 10, 11, 68, 69, 70])] Try.f3 (bodyOf Try.f3) false [⟨false, .bool⟩] (ins1 (.one (.int .i64 5)) (encTup [⟨true, (.pair .int (.pair .int (.pair .int (.pair .int .int))))⟩, ⟨false, (.sl .int)⟩] x))).run (tendrillaw07_ArenaPinned_5_Λ K) = tendrillaw07_ArenaPinned_5_K K x := by kernel_rfl
end Go.Proofs.YtkdohmgacodhjaaFn
