/- What the interpreter of code computes of these functions, part 4; no condition. -/
import Derived.Test.YtcoiboghdmmdcacProg
import Derived.KernelRfl
import Derived.Test.YtcoiboghdmmdcacPx25
import Derived.Test.YtcoiboghdmmdcacFnsD
set_option linter.unusedVariables false
set_option linter.unusedSimpArgs false
namespace Go.Proofs.YtcoiboghdmmdcacFn
open Go Go.RowKit Go.Proofs.YtcoiboghdmmdcacPx
set_option maxHeartbeats 0 in
set_option maxRecDepth 5000000 in
def tendrillaw07_ArenaApart_P18v0 (k : Nat) (vs : List SV) (bs : List Blk) : Option (Option (Bool)) := match vs, bs with
  | [.val (.one (.int .i64 p0)), .val (.one (.ptr 0 0)), .val (.one (.int .i64 p1)), .val (.one (.int .i64 p2)), .val (.one (.row 1)), .val (.one (.int .i64 p3)), .val (.one (.int .i64 p4))], [.box [(.sl .int p5), (.sl .int p6), (.sl .int p7), (.sl .int p8), (.sl .int p9), (.sl .int p10), (.sl .int p11), (.sl .int p12), (.sl .int p13), (.sl .int p14), (.sl .int p15), (.sl .int p16), (.sl .int p17), (.sl .int p18), (.int .i64 p19), (.sl .int p20)], .row (.pair (.sl .int) (.pair (.sl .int) (.pair (.pair (.pair (.sl .int) (.pair (.sl .int) (.pair (.sl .int) (.sl .int)))) (.pair (.pair (.sl .int) (.pair (.sl .int) (.pair (.sl .int) (.sl .int)))) (.pair (.sl .int) (.pair (.sl .int) (.pair (.sl .int) (.sl .int)))))) (.pair .int (.sl .int))))) p21] => some (tendrillaw07_ArenaApart_L18 k p0 p1 p2 p3 p4 p5 p6 p7 p8 p9 p10 p11 p12 p13 p14 p15 p16 p17 p18 p19 p20 p21)
  | _, _ => none
set_option maxHeartbeats 0 in
set_option maxRecDepth 5000000 in
def tendrillaw07_ArenaApart_P26v0 (k : Nat) (vs : List SV) (bs : List Blk) : Option (Option (Bool)) := match vs, bs with
  | [.val (.one (.int .i64 p0)), .val (.one (.ptr 0 0)), .val (.one (.int .i64 p1)), .val (.one (.int .i64 p2)), .val (.one (.ptr 1 0)), .val (.one (.row 2)), .val (.one (.int .i64 p3)), .val (.one (.int .i64 p4)), .val (.one (.int .i64 p5))], [.box [(.sl .int p6), (.sl .int p7), (.sl .int p8), (.sl .int p9), (.sl .int p10), (.sl .int p11), (.sl .int p12), (.sl .int p13), (.sl .int p14), (.sl .int p15), (.sl .int p16), (.sl .int p17), (.sl .int p18), (.sl .int p19), (.int .i64 p20), (.sl .int p21)], .box [(.sl .int p22), (.sl .int p23), (.sl .int p24), (.sl .int p25), (.sl .int p26), (.sl .int p27), (.sl .int p28), (.sl .int p29), (.sl .int p30), (.sl .int p31), (.sl .int p32), (.sl .int p33), (.sl .int p34), (.sl .int p35), (.int .i64 p36), (.sl .int p37)], .row (.pair (.sl .int) (.pair (.sl .int) (.pair (.pair (.pair (.sl .int) (.pair (.sl .int) (.pair (.sl .int) (.sl .int)))) (.pair (.pair (.sl .int) (.pair (.sl .int) (.pair (.sl .int) (.sl .int)))) (.pair (.sl .int) (.pair (.sl .int) (.pair (.sl .int) (.sl .int)))))) (.pair .int (.sl .int))))) p38] => some (tendrillaw07_ArenaApart_L26 k p0 p1 p2 p3 p4 p5 p6 p7 p8 p9 p10 p11 p12 p13 p14 p15 p16 p17 p18 p19 p20 p21 p22 p23 p24 p25 p26 p27 p28 p29 p30 p31 p32 p33 p34 p35 p36 p37 p38)
  | _, _ => none
def tendrillaw07_ArenaApart_P18 (k : Nat) (vs : List SV) (bs : List Blk) : Option (Bool) := match tendrillaw07_ArenaApart_P18v0 k vs bs with | some r => r | none => none
def tendrillaw07_ArenaApart_P26 (k : Nat) (vs : List SV) (bs : List Blk) : Option (Bool) := match tendrillaw07_ArenaApart_P26v0 k vs bs with | some r => r | none => none
def tendrillaw07_ArenaApart_Λ (k L : Nat) (vs : List SV) (bs : List Blk) : Option (Bool) := match Nat.beq L 18 with | true => tendrillaw07_ArenaApart_P18 k vs bs | false => match Nat.beq L 26 with | true => tendrillaw07_ArenaApart_P26 k vs bs | false => none
noncomputable def tendrillaw07_ArenaApart_C : List (Cut (Tup [⟨false, .bool⟩])) := cuts Try.prog (lkΓ [(9, tendrillaw07_live_S), (10, tendrilref07_Few_S), (13, tendrilref07_Same_S), (16, arena_Take_S), (17, arena_Retire_S), (18, tendrilref05_Same_S), (19, tendrilref06_Same_S)]) Try.f4.ntmps [(26, [1, 3, 9, 11, 13, 36, 37, 38, 50]), (18, [1, 3, 9, 11, 36, 37, 38])] (bodyOf Try.f4) (κ0 Try.prog Try.f4 false [⟨false, .bool⟩])
set_option maxRecDepth 5000000 in
theorem tendrillaw07_ArenaApart_c18 (k : Nat) (p0 : Int) (p1 : Int) (p2 : Int) (p3 : Int) (p4 : Int) (p5 : List Int) (p6 : List Int) (p7 : List Int) (p8 : List Int) (p9 : List Int) (p10 : List Int) (p11 : List Int) (p12 : List Int) (p13 : List Int) (p14 : List Int) (p15 : List Int) (p16 : List Int) (p17 : List Int) (p18 : List Int) (p19 : Int) (p20 : List Int) (p21 : List (List Int × List Int × ((List Int × List Int × List Int × List Int) × (List Int × List Int × List Int × List Int) × List Int × List Int × List Int × List Int) × Int × List Int)) : ((nthC tendrillaw07_ArenaApart_C 0).g (mkSt [1, 3, 9, 11, 36, 37, 38] [.val (.one (.int .i64 p0)), .val (.one (.ptr 0 0)), .val (.one (.int .i64 p1)), .val (.one (.int .i64 p2)), .val (.one (.row 1)), .val (.one (.int .i64 p3)), .val (.one (.int .i64 p4))] [.box [(.sl .int p5), (.sl .int p6), (.sl .int p7), (.sl .int p8), (.sl .int p9), (.sl .int p10), (.sl .int p11), (.sl .int p12), (.sl .int p13), (.sl .int p14), (.sl .int p15), (.sl .int p16), (.sl .int p17), (.sl .int p18), (.int .i64 p19), (.sl .int p20)], .row (.pair (.sl .int) (.pair (.sl .int) (.pair (.pair (.pair (.sl .int) (.pair (.sl .int) (.pair (.sl .int) (.sl .int)))) (.pair (.pair (.sl .int) (.pair (.sl .int) (.pair (.sl .int) (.sl .int)))) (.pair (.sl .int) (.pair (.sl .int) (.pair (.sl .int) (.sl .int)))))) (.pair .int (.sl .int))))) p21])).run (tendrillaw07_ArenaApart_Λ k) = tendrillaw07_ArenaApart_L18 (k + 1) p0 p1 p2 p3 p4 p5 p6 p7 p8 p9 p10 p11 p12 p13 p14 p15 p16 p17 p18 p19 p20 p21 := by kernel_rfl
set_option maxHeartbeats 0 in
set_option maxRecDepth 5000000 in
theorem tendrillaw07_ArenaApart_e18 (k : Nat) (vs : List SV) (bs : List Blk) (r : Bool) (h : tendrillaw07_ArenaApart_P18v0 (k + 1) vs bs = some (some r)) : ((nthC tendrillaw07_ArenaApart_C 0).g (mkSt [1, 3, 9, 11, 36, 37, 38] vs bs)).run (tendrillaw07_ArenaApart_Λ k) = some r := by
  unfold tendrillaw07_ArenaApart_P18v0 at h
  split at h
  · exact (tendrillaw07_ArenaApart_c18 k _ _ _ _ _ _ _ _ _ _ _ _ _ _ _ _ _ _ _ _ _ _).trans (Option.some.inj h)
  · cases h
set_option maxRecDepth 5000000 in
theorem tendrillaw07_ArenaApart_c26 (k : Nat) (p0 : Int) (p1 : Int) (p2 : Int) (p3 : Int) (p4 : Int) (p5 : Int) (p6 : List Int) (p7 : List Int) (p8 : List Int) (p9 : List Int) (p10 : List Int) (p11 : List Int) (p12 : List Int) (p13 : List Int) (p14 : List Int) (p15 : List Int) (p16 : List Int) (p17 : List Int) (p18 : List Int) (p19 : List Int) (p20 : Int) (p21 : List Int) (p22 : List Int) (p23 : List Int) (p24 : List Int) (p25 : List Int) (p26 : List Int) (p27 : List Int) (p28 : List Int) (p29 : List Int) (p30 : List Int) (p31 : List Int) (p32 : List Int) (p33 : List Int) (p34 : List Int) (p35 : List Int) (p36 : Int) (p37 : List Int) (p38 : List (List Int × List Int × ((List Int × List Int × List Int × List Int) × (List Int × List Int × List Int × List Int) × List Int × List Int × List Int × List Int) × Int × List Int)) : ((nthC tendrillaw07_ArenaApart_C 1).g (mkSt [1, 3, 9, 11, 13, 36, 37, 38, 50] [.val (.one (.int .i64 p0)), .val (.one (.ptr 0 0)), .val (.one (.int .i64 p1)), .val (.one (.int .i64 p2)), .val (.one (.ptr 1 0)), .val (.one (.row 2)), .val (.one (.int .i64 p3)), .val (.one (.int .i64 p4)), .val (.one (.int .i64 p5))] [.box [(.sl .int p6), (.sl .int p7), (.sl .int p8), (.sl .int p9), (.sl .int p10), (.sl .int p11), (.sl .int p12), (.sl .int p13), (.sl .int p14), (.sl .int p15), (.sl .int p16), (.sl .int p17), (.sl .int p18), (.sl .int p19), (.int .i64 p20), (.sl .int p21)], .box [(.sl .int p22), (.sl .int p23), (.sl .int p24), (.sl .int p25), (.sl .int p26), (.sl .int p27), (.sl .int p28), (.sl .int p29), (.sl .int p30), (.sl .int p31), (.sl .int p32), (.sl .int p33), (.sl .int p34), (.sl .int p35), (.int .i64 p36), (.sl .int p37)], .row (.pair (.sl .int) (.pair (.sl .int) (.pair (.pair (.pair (.sl .int) (.pair (.sl .int) (.pair (.sl .int) (.sl .int)))) (.pair (.pair (.sl .int) (.pair (.sl .int) (.pair (.sl .int) (.sl .int)))) (.pair (.sl .int) (.pair (.sl .int) (.pair (.sl .int) (.sl .int)))))) (.pair .int (.sl .int))))) p38])).run (tendrillaw07_ArenaApart_Λ k) = tendrillaw07_ArenaApart_L26 (k + 1) p0 p1 p2 p3 p4 p5 p6 p7 p8 p9 p10 p11 p12 p13 p14 p15 p16 p17 p18 p19 p20 p21 p22 p23 p24 p25 p26 p27 p28 p29 p30 p31 p32 p33 p34 p35 p36 p37 p38 := by kernel_rfl
set_option maxHeartbeats 0 in
set_option maxRecDepth 5000000 in
theorem tendrillaw07_ArenaApart_e26 (k : Nat) (vs : List SV) (bs : List Blk) (r : Bool) (h : tendrillaw07_ArenaApart_P26v0 (k + 1) vs bs = some (some r)) : ((nthC tendrillaw07_ArenaApart_C 1).g (mkSt [1, 3, 9, 11, 13, 36, 37, 38, 50] vs bs)).run (tendrillaw07_ArenaApart_Λ k) = some r := by
  unfold tendrillaw07_ArenaApart_P26v0 at h
  split at h
  · exact (tendrillaw07_ArenaApart_c26 k _ _ _ _ _ _ _ _ _ _ _ _ _ _ _ _ _ _ _ _ _ _ _ _ _ _ _ _ _ _ _ _ _ _ _ _ _ _ _).trans (Option.some.inj h)
  · cases h
theorem tendrillaw07_ArenaApart_d18 : CutOk tendrillaw07_ArenaApart_Λ (nthC tendrillaw07_ArenaApart_C 0) := by
  refine cutOk_of (L := 18) (live := [1, 3, 9, 11, 36, 37, 38]) (by kernel_rfl) (by kernel_rfl) fun k vs bs r h => ?_
  change tendrillaw07_ArenaApart_P18 (k + 1) vs bs = some r at h
  unfold tendrillaw07_ArenaApart_P18 at h
  split at h
  · rename_i q hq
    exact tendrillaw07_ArenaApart_e18 k vs bs r (hq.trans (congrArg some h))
  cases h
theorem tendrillaw07_ArenaApart_d26 : CutOk tendrillaw07_ArenaApart_Λ (nthC tendrillaw07_ArenaApart_C 1) := by
  refine cutOk_of (L := 26) (live := [1, 3, 9, 11, 13, 36, 37, 38, 50]) (by kernel_rfl) (by kernel_rfl) fun k vs bs r h => ?_
  change tendrillaw07_ArenaApart_P26 (k + 1) vs bs = some r at h
  unfold tendrillaw07_ArenaApart_P26 at h
  split at h
  · rename_i q hq
    exact tendrillaw07_ArenaApart_e26 k vs bs r (hq.trans (congrArg some h))
  cases h
theorem tendrillaw07_ArenaApart_cuts : ∀ p ∈ cuts Try.prog (lkΓ [(9, tendrillaw07_live_S), (10, tendrilref07_Few_S), (13, tendrilref07_Same_S), (16, arena_Take_S), (17, arena_Retire_S), (18, tendrilref05_Same_S), (19, tendrilref06_Same_S)]) Try.f4.ntmps [(26, [1, 3, 9, 11, 13, 36, 37, 38, 50]), (18, [1, 3, 9, 11, 36, 37, 38])] (bodyOf Try.f4) (κ0 Try.prog Try.f4 false [⟨false, .bool⟩]), CutOk tendrillaw07_ArenaApart_Λ p := cutsOk (l := tendrillaw07_ArenaApart_C) (n := 2) (by kernel_rfl) fun
  | 0, _ => tendrillaw07_ArenaApart_d18
  | 1, _ => tendrillaw07_ArenaApart_d26
  | k + 2, h => absurd h (by omega)
set_option maxHeartbeats 0 in
set_option maxRecDepth 5000000 in
theorem tendrillaw07_ArenaApart_z18 (vs : List SV) (bs : List Blk) (q : Option (Bool)) (h : tendrillaw07_ArenaApart_P18v0 0 vs bs = some q) : q = none := by
  unfold tendrillaw07_ArenaApart_P18v0 at h; split at h
  · have h := Option.some.inj h; rw [← h]; first | rfl | (unfold tendrillaw07_ArenaApart_L18; rfl)
  · cases h
set_option maxHeartbeats 0 in
set_option maxRecDepth 5000000 in
theorem tendrillaw07_ArenaApart_z26 (vs : List SV) (bs : List Blk) (q : Option (Bool)) (h : tendrillaw07_ArenaApart_P26v0 0 vs bs = some q) : q = none := by
  unfold tendrillaw07_ArenaApart_P26v0 at h; split at h
  · have h := Option.some.inj h; rw [← h]; first | rfl | (unfold tendrillaw07_ArenaApart_L26; rfl)
  · cases h
theorem tendrillaw07_ArenaApart_Λ0 (L : Nat) (vs : List SV) (bs : List Blk) : tendrillaw07_ArenaApart_Λ 0 L vs bs = none := by
  unfold tendrillaw07_ArenaApart_Λ
  split
  · unfold tendrillaw07_ArenaApart_P18
    split
    · rename_i q hq; exact tendrillaw07_ArenaApart_z18 _ _ q hq
    rfl
  split
  · unfold tendrillaw07_ArenaApart_P26
    split
    · rename_i q hq; exact tendrillaw07_ArenaApart_z26 _ _ q hq
    rfl
  rfl
set_option maxRecDepth 5000000 in
theorem tendrillaw07_ArenaApart_run (K : Nat) (x : Tup [⟨true, (.pair (.sl .int) (.pair (.sl .int) (.pair (.pair (.pair (.sl .int) (.pair (.sl .int) (.pair (.sl .int) (.sl .int)))) (.pair (.pair (.sl .int) (.pair (.sl .int) (.pair (.sl .int) (.sl .int)))) (.pair (.sl .int) (.pair (.sl .int) (.pair (.sl .int) (.sl .int)))))) (.pair .int (.sl .int)))))⟩, ⟨false, .int⟩, ⟨false, .int⟩]) : (pxFn Try.prog (lkΓ [(9, tendrillaw07_live_S), (10, tendrilref07_Few_S), (13, tendrilref07_Same_S), (16, arena_Take_S), (17, arena_Retire_S), (18, tendrilref05_Same_S), (19, tendrilref06_Same_S)]) [(26, [1, 3, 9, 11, 13, 36, 37, 38, 50]), (18, [1, 3, 9, 11, 36, 37, 38])] Try.f4 (bodyOf Try.f4) false [⟨false, .bool⟩] (encTup [⟨true, (.pair (.sl .int) (.pair (.sl .int) (.pair (.pair (.pair (.sl .int) (.pair (.sl .int) (.pair (.sl .int) (.sl .int)))) (.pair (.pair (.sl .int) (.pair (.sl .int) (.pair (.sl .int) (.sl .int)))) (.pair (.sl .int) (.pair (.sl .int) (.pair (.sl .int) (.sl .int)))))) (.pair .int (.sl .int)))))⟩, ⟨false, .int⟩, ⟨false, .int⟩] x)).run (tendrillaw07_ArenaApart_Λ K) = tendrillaw07_ArenaApart_K K x := by kernel_rfl
set_option maxHeartbeats 0 in
set_option maxRecDepth 5000000 in
def tendrilref06_New_P12v0 (k : Nat) (vs : List SV) (bs : List Blk) : Option (Option ((Int × List Int) × Int)) := match vs, bs with
  | [.val (.one (.ptr 0 0)), .val (.one (.ptr 1 0)), .val (.one (.int .i64 p0)), .val (.one (.int .i64 p1))], [.box [(.int .i64 p2), .nil], .box [(.int .i64 p3), .nil]] => some (tendrilref06_New_L12 k p0 p1 p2 p3)
  | _, _ => none
set_option maxHeartbeats 0 in
set_option maxRecDepth 5000000 in
def tendrilref06_New_P12v1 (k : Nat) (vs : List SV) (bs : List Blk) : Option (Option ((Int × List Int) × Int)) := match vs, bs with
  | [.val (.one (.ptr 0 0)), .val (.one (.ptr 1 0)), .val (.one (.int .i64 p0)), .val (.one (.int .i64 p1))], [.box [(.int .i64 p2), .nil], .box [(.int .i64 p3), (.row 2)], .row .int p4] => some (tendrilref06_New_L12x1 k p0 p1 p2 p3 p4)
  | _, _ => none
def tendrilref06_New_P12 (k : Nat) (vs : List SV) (bs : List Blk) : Option ((Int × List Int) × Int) := match tendrilref06_New_P12v0 k vs bs with | some r => r | none => match tendrilref06_New_P12v1 k vs bs with | some r => r | none => none
def tendrilref06_New_Λ (k L : Nat) (vs : List SV) (bs : List Blk) : Option ((Int × List Int) × Int) := match Nat.beq L 12 with | true => tendrilref06_New_P12 k vs bs | false => none
noncomputable def tendrilref06_New_C : List (Cut (Tup [⟨true, (.pair .int (.sl .int))⟩, ⟨false, .int⟩])) := cuts Try.prog (lkΓ []) Try.f37.ntmps [(12, [2, 4, 13, 14])] (bodyOf Try.f37) (κ0 Try.prog Try.f37 true [⟨true, (.pair .int (.sl .int))⟩, ⟨false, .int⟩])
set_option maxRecDepth 5000000 in
theorem tendrilref06_New_c12 (k : Nat) (p0 : Int) (p1 : Int) (p2 : Int) (p3 : Int) : ((nthC tendrilref06_New_C 0).g (mkSt [2, 4, 13, 14] [.val (.one (.ptr 0 0)), .val (.one (.ptr 1 0)), .val (.one (.int .i64 p0)), .val (.one (.int .i64 p1))] [.box [(.int .i64 p2), .nil], .box [(.int .i64 p3), .nil]])).run (tendrilref06_New_Λ k) = tendrilref06_New_L12 (k + 1) p0 p1 p2 p3 := by kernel_rfl
set_option maxHeartbeats 0 in
set_option maxRecDepth 5000000 in
theorem tendrilref06_New_e12 (k : Nat) (vs : List SV) (bs : List Blk) (r : (Int × (List Int)) × Int) (h : tendrilref06_New_P12v0 (k + 1) vs bs = some (some r)) : ((nthC tendrilref06_New_C 0).g (mkSt [2, 4, 13, 14] vs bs)).run (tendrilref06_New_Λ k) = some r := by
  unfold tendrilref06_New_P12v0 at h
  split at h
  · exact (tendrilref06_New_c12 k _ _ _ _).trans (Option.some.inj h)
  · cases h
set_option maxRecDepth 5000000 in
theorem tendrilref06_New_c12x1 (k : Nat) (p0 : Int) (p1 : Int) (p2 : Int) (p3 : Int) (p4 : List Int) : ((nthC tendrilref06_New_C 0).g (mkSt [2, 4, 13, 14] [.val (.one (.ptr 0 0)), .val (.one (.ptr 1 0)), .val (.one (.int .i64 p0)), .val (.one (.int .i64 p1))] [.box [(.int .i64 p2), .nil], .box [(.int .i64 p3), (.row 2)], .row .int p4])).run (tendrilref06_New_Λ k) = tendrilref06_New_L12x1 (k + 1) p0 p1 p2 p3 p4 := by kernel_rfl
set_option maxHeartbeats 0 in
set_option maxRecDepth 5000000 in
theorem tendrilref06_New_e12x1 (k : Nat) (vs : List SV) (bs : List Blk) (r : (Int × (List Int)) × Int) (h : tendrilref06_New_P12v1 (k + 1) vs bs = some (some r)) : ((nthC tendrilref06_New_C 0).g (mkSt [2, 4, 13, 14] vs bs)).run (tendrilref06_New_Λ k) = some r := by
  unfold tendrilref06_New_P12v1 at h
  split at h
  · exact (tendrilref06_New_c12x1 k _ _ _ _ _).trans (Option.some.inj h)
  · cases h
theorem tendrilref06_New_d12 : CutOk tendrilref06_New_Λ (nthC tendrilref06_New_C 0) := by
  refine cutOk_of (L := 12) (live := [2, 4, 13, 14]) (by kernel_rfl) (by kernel_rfl) fun k vs bs r h => ?_
  change tendrilref06_New_P12 (k + 1) vs bs = some r at h
  unfold tendrilref06_New_P12 at h
  split at h
  · rename_i q hq
    exact tendrilref06_New_e12 k vs bs r (hq.trans (congrArg some h))
  split at h
  · rename_i q hq
    exact tendrilref06_New_e12x1 k vs bs r (hq.trans (congrArg some h))
  cases h
theorem tendrilref06_New_cuts : ∀ p ∈ cuts Try.prog (lkΓ []) Try.f37.ntmps [(12, [2, 4, 13, 14])] (bodyOf Try.f37) (κ0 Try.prog Try.f37 true [⟨true, (.pair .int (.sl .int))⟩, ⟨false, .int⟩]), CutOk tendrilref06_New_Λ p := cutsOk (l := tendrilref06_New_C) (n := 1) (by kernel_rfl) fun
  | 0, _ => tendrilref06_New_d12
  | k + 1, h => absurd h (by omega)
set_option maxHeartbeats 0 in
set_option maxRecDepth 5000000 in
theorem tendrilref06_New_z12 (vs : List SV) (bs : List Blk) (q : Option ((Int × (List Int)) × Int)) (h : tendrilref06_New_P12v0 0 vs bs = some q) : q = none := by
  unfold tendrilref06_New_P12v0 at h; split at h
  · have h := Option.some.inj h; rw [← h]; first | rfl | (unfold tendrilref06_New_L12; rfl)
  · cases h
set_option maxHeartbeats 0 in
set_option maxRecDepth 5000000 in
theorem tendrilref06_New_z12x1 (vs : List SV) (bs : List Blk) (q : Option ((Int × (List Int)) × Int)) (h : tendrilref06_New_P12v1 0 vs bs = some q) : q = none := by
  unfold tendrilref06_New_P12v1 at h; split at h
  · have h := Option.some.inj h; rw [← h]; first | rfl | (unfold tendrilref06_New_L12x1; rfl)
  · cases h
theorem tendrilref06_New_Λ0 (L : Nat) (vs : List SV) (bs : List Blk) : tendrilref06_New_Λ 0 L vs bs = none := by
  unfold tendrilref06_New_Λ
  split
  · unfold tendrilref06_New_P12
    split
    · rename_i q hq; exact tendrilref06_New_z12 _ _ q hq
    split
    · rename_i q hq; exact tendrilref06_New_z12x1 _ _ q hq
    rfl
  rfl
set_option maxRecDepth 5000000 in
theorem tendrilref06_New_run (K : Nat) (x : Tup [⟨false, .int⟩]) : (pxFn Try.prog (lkΓ []) [(12, [2, 4, 13, 14])] Try.f37 (bodyOf Try.f37) true [⟨true, (.pair .int (.sl .int))⟩, ⟨false, .int⟩] (encTup [⟨false, .int⟩] x)).run (tendrilref06_New_Λ K) = tendrilref06_New_K K x := by kernel_rfl
set_option maxHeartbeats 0 in
set_option maxRecDepth 5000000 in
def arena_Check_P6v0 (k : Nat) (vs : List SV) (bs : List Blk) : Option (Option (Int)) := match vs, bs with
  | [.val (.one (.ptr 0 0)), .val (.agg [(.sl .int p0), (.sl .int p1), (.sl .int p2), (.sl .int p3), (.sl .int p4), (.sl .int p5), (.sl .int p6), (.sl .int p7), (.sl .int p8), (.sl .int p9), (.sl .int p10), (.sl .int p11)]), .val (.one (.int .i64 p12))], [.box [(.sl .int p13), (.sl .int p14), (.sl .int p15), (.sl .int p16), (.sl .int p17), (.sl .int p18), (.sl .int p19), (.sl .int p20), (.sl .int p21), (.sl .int p22), (.sl .int p23), (.sl .int p24), (.sl .int p25), (.sl .int p26), (.int .i64 p27), (.sl .int p28)]] => some (arena_Check_L6 k p0 p1 p2 p3 p4 p5 p6 p7 p8 p9 p10 p11 p12 p13 p14 p15 p16 p17 p18 p19 p20 p21 p22 p23 p24 p25 p26 p27 p28)
  | _, _ => none
def arena_Check_P6 (k : Nat) (vs : List SV) (bs : List Blk) : Option (Int) := match arena_Check_P6v0 k vs bs with | some r => r | none => none
def arena_Check_Λ (k L : Nat) (vs : List SV) (bs : List Blk) : Option (Int) := match Nat.beq L 6 with | true => arena_Check_P6 k vs bs | false => none
noncomputable def arena_Check_C : List (Cut (Tup [⟨false, .int⟩])) := cuts Try.prog (lkΓ [(42, pool_Check_S), (43, era_Check_S)]) Try.f14.ntmps [(6, [1, 7, 8])] (bodyOf Try.f14) (κ0 Try.prog Try.f14 false [⟨false, .int⟩])
set_option maxRecDepth 5000000 in
theorem arena_Check_c6 (k : Nat) (p0 : List Int) (p1 : List Int) (p2 : List Int) (p3 : List Int) (p4 : List Int) (p5 : List Int) (p6 : List Int) (p7 : List Int) (p8 : List Int) (p9 : List Int) (p10 : List Int) (p11 : List Int) (p12 : Int) (p13 : List Int) (p14 : List Int) (p15 : List Int) (p16 : List Int) (p17 : List Int) (p18 : List Int) (p19 : List Int) (p20 : List Int) (p21 : List Int) (p22 : List Int) (p23 : List Int) (p24 : List Int) (p25 : List Int) (p26 : List Int) (p27 : Int) (p28 : List Int) : ((nthC arena_Check_C 0).g (mkSt [1, 7, 8] [.val (.one (.ptr 0 0)), .val (.agg [(.sl .int p0), (.sl .int p1), (.sl .int p2), (.sl .int p3), (.sl .int p4), (.sl .int p5), (.sl .int p6), (.sl .int p7), (.sl .int p8), (.sl .int p9), (.sl .int p10), (.sl .int p11)]), .val (.one (.int .i64 p12))] [.box [(.sl .int p13), (.sl .int p14), (.sl .int p15), (.sl .int p16), (.sl .int p17), (.sl .int p18), (.sl .int p19), (.sl .int p20), (.sl .int p21), (.sl .int p22), (.sl .int p23), (.sl .int p24), (.sl .int p25), (.sl .int p26), (.int .i64 p27), (.sl .int p28)]])).run (arena_Check_Λ k) = arena_Check_L6 (k + 1) p0 p1 p2 p3 p4 p5 p6 p7 p8 p9 p10 p11 p12 p13 p14 p15 p16 p17 p18 p19 p20 p21 p22 p23 p24 p25 p26 p27 p28 := by kernel_rfl
set_option maxHeartbeats 0 in
set_option maxRecDepth 5000000 in
theorem arena_Check_e6 (k : Nat) (vs : List SV) (bs : List Blk) (r : Int) (h : arena_Check_P6v0 (k + 1) vs bs = some (some r)) : ((nthC arena_Check_C 0).g (mkSt [1, 7, 8] vs bs)).run (arena_Check_Λ k) = some r := by
  unfold arena_Check_P6v0 at h
  split at h
  · exact (arena_Check_c6 k _ _ _ _ _ _ _ _ _ _ _ _ _ _ _ _ _ _ _ _ _ _ _ _ _ _ _ _ _).trans (Option.some.inj h)
  · cases h
theorem arena_Check_d6 : CutOk arena_Check_Λ (nthC arena_Check_C 0) := by
  refine cutOk_of (L := 6) (live := [1, 7, 8]) (by kernel_rfl) (by kernel_rfl) fun k vs bs r h => ?_
  change arena_Check_P6 (k + 1) vs bs = some r at h
  unfold arena_Check_P6 at h
  split at h
  · rename_i q hq
    exact arena_Check_e6 k vs bs r (hq.trans (congrArg some h))
  cases h
theorem arena_Check_cuts : ∀ p ∈ cuts Try.prog (lkΓ [(42, pool_Check_S), (43, era_Check_S)]) Try.f14.ntmps [(6, [1, 7, 8])] (bodyOf Try.f14) (κ0 Try.prog Try.f14 false [⟨false, .int⟩]), CutOk arena_Check_Λ p := cutsOk (l := arena_Check_C) (n := 1) (by kernel_rfl) fun
  | 0, _ => arena_Check_d6
  | k + 1, h => absurd h (by omega)
set_option maxHeartbeats 0 in
set_option maxRecDepth 5000000 in
theorem arena_Check_z6 (vs : List SV) (bs : List Blk) (q : Option (Int)) (h : arena_Check_P6v0 0 vs bs = some q) : q = none := by
  unfold arena_Check_P6v0 at h; split at h
  · have h := Option.some.inj h; rw [← h]; first | rfl | (unfold arena_Check_L6; rfl)
  · cases h
theorem arena_Check_Λ0 (L : Nat) (vs : List SV) (bs : List Blk) : arena_Check_Λ 0 L vs bs = none := by
  unfold arena_Check_Λ
  split
  · unfold arena_Check_P6
    split
    · rename_i q hq; exact arena_Check_z6 _ _ q hq
    rfl
  rfl
set_option maxRecDepth 5000000 in
theorem arena_Check_run (K : Nat) (x : Tup [⟨true, (.pair (.sl .int) (.pair (.sl .int) (.pair (.pair (.pair (.sl .int) (.pair (.sl .int) (.pair (.sl .int) (.sl .int)))) (.pair (.pair (.sl .int) (.pair (.sl .int) (.pair (.sl .int) (.sl .int)))) (.pair (.sl .int) (.pair (.sl .int) (.pair (.sl .int) (.sl .int)))))) (.pair .int (.sl .int)))))⟩]) : (pxFn Try.prog (lkΓ [(42, pool_Check_S), (43, era_Check_S)]) [(6, [1, 7, 8])] Try.f14 (bodyOf Try.f14) false [⟨false, .int⟩] (encTup [⟨true, (.pair (.sl .int) (.pair (.sl .int) (.pair (.pair (.pair (.sl .int) (.pair (.sl .int) (.pair (.sl .int) (.sl .int)))) (.pair (.pair (.sl .int) (.pair (.sl .int) (.pair (.sl .int) (.sl .int)))) (.pair (.sl .int) (.pair (.sl .int) (.pair (.sl .int) (.sl .int)))))) (.pair .int (.sl .int)))))⟩] x)).run (arena_Check_Λ K) = arena_Check_K K x := by kernel_rfl
set_option maxHeartbeats 0 in
set_option maxRecDepth 5000000 in
def tendrilref06_Turn_P12v0 (k : Nat) (vs : List SV) (bs : List Blk) : Option (Option ((Int × List Int) × Bool)) := match vs, bs with
  | [.val (.one (.ptr 0 0)), .val (.one (.ptr 1 0)), .val (.one (.ptr 2 0)), .val (.one (.sl .int p0)), .val (.one (.int .i64 p1)), .val (.one (.int .i64 p2))], [.box [(.int .i64 p3), (.sl .int p4)], .box [(.int .i64 p5), .nil], .box [(.int .i64 p6), (.row 3)], .row .int p7] => some (tendrilref06_Turn_L12 k p0 p1 p2 p3 p4 p5 p6 p7)
  | _, _ => none
def tendrilref06_Turn_P12 (k : Nat) (vs : List SV) (bs : List Blk) : Option ((Int × List Int) × Bool) := match tendrilref06_Turn_P12v0 k vs bs with | some r => r | none => none
def tendrilref06_Turn_Λ (k L : Nat) (vs : List SV) (bs : List Blk) : Option ((Int × List Int) × Bool) := match Nat.beq L 12 with | true => tendrilref06_Turn_P12 k vs bs | false => none
noncomputable def tendrilref06_Turn_C : List (Cut (Tup [⟨true, (.pair .int (.sl .int))⟩, ⟨false, .bool⟩])) := cuts Try.prog (lkΓ [(45, tendrilref06_Check_S), (75, tendrilref02_Copy_S)]) Try.f58.ntmps [(12, [1, 2, 4, 18, 19, 20])] (bodyOf Try.f58) (κ0 Try.prog Try.f58 true [⟨true, (.pair .int (.sl .int))⟩, ⟨false, .bool⟩])
set_option maxRecDepth 5000000 in
theorem tendrilref06_Turn_c12 (k : Nat) (p0 : List Int) (p1 : Int) (p2 : Int) (p3 : Int) (p4 : List Int) (p5 : Int) (p6 : Int) (p7 : List Int) : ((nthC tendrilref06_Turn_C 0).g (mkSt [1, 2, 4, 18, 19, 20] [.val (.one (.ptr 0 0)), .val (.one (.ptr 1 0)), .val (.one (.ptr 2 0)), .val (.one (.sl .int p0)), .val (.one (.int .i64 p1)), .val (.one (.int .i64 p2))] [.box [(.int .i64 p3), (.sl .int p4)], .box [(.int .i64 p5), .nil], .box [(.int .i64 p6), (.row 3)], .row .int p7])).run (tendrilref06_Turn_Λ k) = tendrilref06_Turn_L12 (k + 1) p0 p1 p2 p3 p4 p5 p6 p7 := by kernel_rfl
set_option maxHeartbeats 0 in
set_option maxRecDepth 5000000 in
theorem tendrilref06_Turn_e12 (k : Nat) (vs : List SV) (bs : List Blk) (r : (Int × (List Int)) × Bool) (h : tendrilref06_Turn_P12v0 (k + 1) vs bs = some (some r)) : ((nthC tendrilref06_Turn_C 0).g (mkSt [1, 2, 4, 18, 19, 20] vs bs)).run (tendrilref06_Turn_Λ k) = some r := by
  unfold tendrilref06_Turn_P12v0 at h
  split at h
  · exact (tendrilref06_Turn_c12 k _ _ _ _ _ _ _ _).trans (Option.some.inj h)
  · cases h
theorem tendrilref06_Turn_d12 : CutOk tendrilref06_Turn_Λ (nthC tendrilref06_Turn_C 0) := by
  refine cutOk_of (L := 12) (live := [1, 2, 4, 18, 19, 20]) (by kernel_rfl) (by kernel_rfl) fun k vs bs r h => ?_
  change tendrilref06_Turn_P12 (k + 1) vs bs = some r at h
  unfold tendrilref06_Turn_P12 at h
  split at h
  · rename_i q hq
    exact tendrilref06_Turn_e12 k vs bs r (hq.trans (congrArg some h))
  cases h
theorem tendrilref06_Turn_cuts : ∀ p ∈ cuts Try.prog (lkΓ [(45, tendrilref06_Check_S), (75, tendrilref02_Copy_S)]) Try.f58.ntmps [(12, [1, 2, 4, 18, 19, 20])] (bodyOf Try.f58) (κ0 Try.prog Try.f58 true [⟨true, (.pair .int (.sl .int))⟩, ⟨false, .bool⟩]), CutOk tendrilref06_Turn_Λ p := cutsOk (l := tendrilref06_Turn_C) (n := 1) (by kernel_rfl) fun
  | 0, _ => tendrilref06_Turn_d12
  | k + 1, h => absurd h (by omega)
set_option maxHeartbeats 0 in
set_option maxRecDepth 5000000 in
theorem tendrilref06_Turn_z12 (vs : List SV) (bs : List Blk) (q : Option ((Int × (List Int)) × Bool)) (h : tendrilref06_Turn_P12v0 0 vs bs = some q) : q = none := by
  unfold tendrilref06_Turn_P12v0 at h; split at h
  · have h := Option.some.inj h; rw [← h]; first | rfl | (unfold tendrilref06_Turn_L12; rfl)
  · cases h
theorem tendrilref06_Turn_Λ0 (L : Nat) (vs : List SV) (bs : List Blk) : tendrilref06_Turn_Λ 0 L vs bs = none := by
  unfold tendrilref06_Turn_Λ
  split
  · unfold tendrilref06_Turn_P12
    split
    · rename_i q hq; exact tendrilref06_Turn_z12 _ _ q hq
    rfl
  rfl
set_option maxRecDepth 5000000 in
theorem tendrilref06_Turn_run (K : Nat) (x : Tup [⟨true, (.pair .int (.sl .int))⟩]) : (pxFn Try.prog (lkΓ [(45, tendrilref06_Check_S), (75, tendrilref02_Copy_S)]) [(12, [1, 2, 4, 18, 19, 20])] Try.f58 (bodyOf Try.f58) true [⟨true, (.pair .int (.sl .int))⟩, ⟨false, .bool⟩] (encTup [⟨true, (.pair .int (.sl .int))⟩] x)).run (tendrilref06_Turn_Λ K) = tendrilref06_Turn_K K x := by kernel_rfl
set_option maxHeartbeats 0 in
set_option maxRecDepth 5000000 in
def slices_Repeat_P18v0 (k : Nat) (vs : List SV) (bs : List Blk) : Option (Option (List Int)) := match vs, bs with
  | [.val (.one (.row 0)), .val (.one (.int .i64 p0))], [.row .int p1] => some (slices_Repeat_L18 k p0 p1)
  | _, _ => none
def slices_Repeat_P18 (k : Nat) (vs : List SV) (bs : List Blk) : Option (List Int) := match slices_Repeat_P18v0 k vs bs with | some r => r | none => none
def slices_Repeat_Λ (k L : Nat) (vs : List SV) (bs : List Blk) : Option (List Int) := match Nat.beq L 18 with | true => slices_Repeat_P18 k vs bs | false => none
noncomputable def slices_Repeat_C : List (Cut (Tup [⟨false, (.sl .int)⟩])) := cuts Try.prog (lkΓ [(76, math_bits_Mul_S), (flagK, flagS)]) Try.f63.ntmps [(18, [7, 8])] (bodyOf Try.f63) (κ0 Try.prog Try.f63 true [⟨false, (.sl .int)⟩])
set_option maxRecDepth 5000000 in
theorem slices_Repeat_c18 (k : Nat) (p0 : Int) (p1 : List Int) : ((nthC slices_Repeat_C 0).g (mkSt [7, 8] [.val (.one (.row 0)), .val (.one (.int .i64 p0))] [.row .int p1])).run (slices_Repeat_Λ k) = slices_Repeat_L18 (k + 1) p0 p1 := by kernel_rfl
set_option maxHeartbeats 0 in
set_option maxRecDepth 5000000 in
theorem slices_Repeat_e18 (k : Nat) (vs : List SV) (bs : List Blk) (r : (List Int)) (h : slices_Repeat_P18v0 (k + 1) vs bs = some (some r)) : ((nthC slices_Repeat_C 0).g (mkSt [7, 8] vs bs)).run (slices_Repeat_Λ k) = some r := by
  unfold slices_Repeat_P18v0 at h
  split at h
  · exact (slices_Repeat_c18 k _ _).trans (Option.some.inj h)
  · cases h
theorem slices_Repeat_d18 : CutOk slices_Repeat_Λ (nthC slices_Repeat_C 0) := by
  refine cutOk_of (L := 18) (live := [7, 8]) (by kernel_rfl) (by kernel_rfl) fun k vs bs r h => ?_
  change slices_Repeat_P18 (k + 1) vs bs = some r at h
  unfold slices_Repeat_P18 at h
  split at h
  · rename_i q hq
    exact slices_Repeat_e18 k vs bs r (hq.trans (congrArg some h))
  cases h
theorem slices_Repeat_cuts : ∀ p ∈ cuts Try.prog (lkΓ [(76, math_bits_Mul_S), (flagK, flagS)]) Try.f63.ntmps [(18, [7, 8])] (bodyOf Try.f63) (κ0 Try.prog Try.f63 true [⟨false, (.sl .int)⟩]), CutOk slices_Repeat_Λ p := cutsOk (l := slices_Repeat_C) (n := 1) (by kernel_rfl) fun
  | 0, _ => slices_Repeat_d18
  | k + 1, h => absurd h (by omega)
set_option maxHeartbeats 0 in
set_option maxRecDepth 5000000 in
theorem slices_Repeat_z18 (vs : List SV) (bs : List Blk) (q : Option ((List Int))) (h : slices_Repeat_P18v0 0 vs bs = some q) : q = none := by
  unfold slices_Repeat_P18v0 at h; split at h
  · have h := Option.some.inj h; rw [← h]; first | rfl | (unfold slices_Repeat_L18; rfl)
  · cases h
theorem slices_Repeat_Λ0 (L : Nat) (vs : List SV) (bs : List Blk) : slices_Repeat_Λ 0 L vs bs = none := by
  unfold slices_Repeat_Λ
  split
  · unfold slices_Repeat_P18
    split
    · rename_i q hq; exact slices_Repeat_z18 _ _ q hq
    rfl
  rfl
set_option maxRecDepth 5000000 in
theorem slices_Repeat_run (K : Nat) (x : Tup [⟨false, (.sl .int)⟩, ⟨false, .int⟩]) : (pxFn Try.prog (lkΓ [(76, math_bits_Mul_S), (flagK, flagS)]) [(18, [7, 8])] Try.f63 (bodyOf Try.f63) true [⟨false, (.sl .int)⟩] (encTup [⟨false, (.sl .int)⟩, ⟨false, .int⟩] x)).run (slices_Repeat_Λ K) = slices_Repeat_K K x := by kernel_rfl
set_option maxRecDepth 5000000 in
theorem arena_Retire_run (x : Tup [⟨true, (.pair (.sl .int) (.pair (.sl .int) (.pair (.pair (.pair (.sl .int) (.pair (.sl .int) (.pair (.sl .int) (.sl .int)))) (.pair (.pair (.sl .int) (.pair (.sl .int) (.pair (.sl .int) (.sl .int)))) (.pair (.sl .int) (.pair (.sl .int) (.pair (.sl .int) (.sl .int)))))) (.pair .int (.sl .int)))))⟩, ⟨false, .int⟩, ⟨false, .int⟩]) : (pxFn Try.prog (lkΓ [(46, arena_may_S), (48, pool_Retire_S)]) [] Try.f17 (bodyOf Try.f17) false [⟨true, (.pair (.sl .int) (.pair (.sl .int) (.pair (.pair (.pair (.sl .int) (.pair (.sl .int) (.pair (.sl .int) (.sl .int)))) (.pair (.pair (.sl .int) (.pair (.sl .int) (.pair (.sl .int) (.sl .int)))) (.pair (.sl .int) (.pair (.sl .int) (.pair (.sl .int) (.sl .int)))))) (.pair .int (.sl .int)))))⟩, ⟨false, .int⟩] (encTup [⟨true, (.pair (.sl .int) (.pair (.sl .int) (.pair (.pair (.pair (.sl .int) (.pair (.sl .int) (.pair (.sl .int) (.sl .int)))) (.pair (.pair (.sl .int) (.pair (.sl .int) (.pair (.sl .int) (.sl .int)))) (.pair (.sl .int) (.pair (.sl .int) (.pair (.sl .int) (.sl .int)))))) (.pair .int (.sl .int)))))⟩, ⟨false, .int⟩, ⟨false, .int⟩] x)).run (fun _ _ _ => none) = arena_Retire x := by kernel_rfl
theorem arena_Retire_cuts : ∀ p ∈ cuts Try.prog (lkΓ [(46, arena_may_S), (48, pool_Retire_S)]) Try.f17.ntmps [] (bodyOf Try.f17) (κ0 Try.prog Try.f17 false [⟨true, (.pair (.sl .int) (.pair (.sl .int) (.pair (.pair (.pair (.sl .int) (.pair (.sl .int) (.pair (.sl .int) (.sl .int)))) (.pair (.pair (.sl .int) (.pair (.sl .int) (.pair (.sl .int) (.sl .int)))) (.pair (.sl .int) (.pair (.sl .int) (.pair (.sl .int) (.sl .int)))))) (.pair .int (.sl .int)))))⟩, ⟨false, .int⟩]), CutOk (fun _ _ _ _ => none) p := cutsNil (by kernel_rfl)
set_option maxRecDepth 5000000 in
theorem tendrilref07_Gen_run (x : Tup [⟨true, (.pair (.sl .int) (.pair (.sl .int) (.pair (.pair (.pair (.sl .int) (.pair (.sl .int) (.pair (.sl .int) (.sl .int)))) (.pair (.pair (.sl .int) (.pair (.sl .int) (.pair (.sl .int) (.sl .int)))) (.pair (.sl .int) (.pair (.sl .int) (.pair (.sl .int) (.sl .int)))))) (.pair .int (.sl .int)))))⟩, ⟨false, .int⟩, ⟨false, .int⟩]) : (pxFn Try.prog (lkΓ [(15, tendrilref07_Check_S), (49, tendrilref07_kind_S), (52, tendrilref01_Unpack_S)]) [] Try.f23 (bodyOf Try.f23) false [⟨false, .int⟩, ⟨false, .int⟩, ⟨false, .int⟩] (encTup [⟨true, (.pair (.sl .int) (.pair (.sl .int) (.pair (.pair (.pair (.sl .int) (.pair (.sl .int) (.pair (.sl .int) (.sl .int)))) (.pair (.pair (.sl .int) (.pair (.sl .int) (.pair (.sl .int) (.sl .int)))) (.pair (.sl .int) (.pair (.sl .int) (.pair (.sl .int) (.sl .int)))))) (.pair .int (.sl .int)))))⟩, ⟨false, .int⟩, ⟨false, .int⟩] x)).run (fun _ _ _ => none) = tendrilref07_Gen x := by kernel_rfl
theorem tendrilref07_Gen_cuts : ∀ p ∈ cuts Try.prog (lkΓ [(15, tendrilref07_Check_S), (49, tendrilref07_kind_S), (52, tendrilref01_Unpack_S)]) Try.f23.ntmps [] (bodyOf Try.f23) (κ0 Try.prog Try.f23 false [⟨false, .int⟩, ⟨false, .int⟩, ⟨false, .int⟩]), CutOk (fun _ _ _ _ => none) p := cutsNil (by kernel_rfl)
set_option maxRecDepth 5000000 in
theorem tendrilref05_Copy_run (x : Tup [⟨true, (.pair (.sl .int) (.pair (.sl .int) (.pair (.sl .int) (.sl .int))))⟩]) : (pxFn Try.prog (lkΓ [(75, tendrilref02_Copy_S)]) [] Try.f69 (bodyOf Try.f69) true [⟨true, (.pair (.sl .int) (.pair (.sl .int) (.pair (.sl .int) (.sl .int))))⟩] (encTup [⟨true, (.pair (.sl .int) (.pair (.sl .int) (.pair (.sl .int) (.sl .int))))⟩] x)).run (fun _ _ _ => none) = tendrilref05_Copy x := by kernel_rfl
theorem tendrilref05_Copy_cuts : ∀ p ∈ cuts Try.prog (lkΓ [(75, tendrilref02_Copy_S)]) Try.f69.ntmps [] (bodyOf Try.f69) (κ0 Try.prog Try.f69 true [⟨true, (.pair (.sl .int) (.pair (.sl .int) (.pair (.sl .int) (.sl .int))))⟩]), CutOk (fun _ _ _ _ => none) p := cutsNil (by kernel_rfl)
set_option maxRecDepth 5000000 in
theorem tendrilref06_Pin_run (x : Tup [⟨true, (.pair .int (.sl .int))⟩, ⟨false, .int⟩]) : (pxFn Try.prog (lkΓ [(45, tendrilref06_Check_S), (75, tendrilref02_Copy_S)]) [] Try.f57 (bodyOf Try.f57) true [⟨true, (.pair .int (.sl .int))⟩, ⟨false, .int⟩] (encTup [⟨true, (.pair .int (.sl .int))⟩, ⟨false, .int⟩] x)).run (fun _ _ _ => none) = tendrilref06_Pin x := by kernel_rfl
theorem tendrilref06_Pin_cuts : ∀ p ∈ cuts Try.prog (lkΓ [(45, tendrilref06_Check_S), (75, tendrilref02_Copy_S)]) Try.f57.ntmps [] (bodyOf Try.f57) (κ0 Try.prog Try.f57 true [⟨true, (.pair .int (.sl .int))⟩, ⟨false, .int⟩]), CutOk (fun _ _ _ _ => none) p := cutsNil (by kernel_rfl)
set_option maxRecDepth 5000000 in
theorem tendrilref05_Few_run (x : Tup [⟨true, (.pair (.sl .int) (.pair (.sl .int) (.pair (.sl .int) (.sl .int))))⟩]) : (pxFn Try.prog (lkΓ []) [] Try.f33 (bodyOf Try.f33) false [⟨false, .bool⟩] (encTup [⟨true, (.pair (.sl .int) (.pair (.sl .int) (.pair (.sl .int) (.sl .int))))⟩] x)).run (fun _ _ _ => none) = tendrilref05_Few x := by kernel_rfl
theorem tendrilref05_Few_cuts : ∀ p ∈ cuts Try.prog (lkΓ []) Try.f33.ntmps [] (bodyOf Try.f33) (κ0 Try.prog Try.f33 false [⟨false, .bool⟩]), CutOk (fun _ _ _ _ => none) p := cutsNil (by kernel_rfl)
set_option maxRecDepth 5000000 in
theorem place_Check_run (x : Tup [⟨true, (.pair .int (.pair .int (.pair .int (.pair .int .int))))⟩]) : (pxFn Try.prog (lkΓ []) [] Try.f34 (bodyOf Try.f34) false [⟨false, .int⟩] (encTup [⟨true, (.pair .int (.pair .int (.pair .int (.pair .int .int))))⟩] x)).run (fun _ _ _ => none) = place_Check x := by kernel_rfl
theorem place_Check_cuts : ∀ p ∈ cuts Try.prog (lkΓ []) Try.f34.ntmps [] (bodyOf Try.f34) (κ0 Try.prog Try.f34 false [⟨false, .int⟩]), CutOk (fun _ _ _ _ => none) p := cutsNil (by kernel_rfl)
set_option maxRecDepth 5000000 in
theorem tendrilref01_Pack_run (x : Tup [⟨false, .int⟩, ⟨false, .int⟩]) : (pxFn Try.prog (lkΓ []) [] Try.f70 (bodyOf Try.f70) false [⟨false, .int⟩, ⟨false, .int⟩] (encTup [⟨false, .int⟩, ⟨false, .int⟩] x)).run (fun _ _ _ => none) = tendrilref01_Pack x := by kernel_rfl
theorem tendrilref01_Pack_cuts : ∀ p ∈ cuts Try.prog (lkΓ []) Try.f70.ntmps [] (bodyOf Try.f70) (κ0 Try.prog Try.f70 false [⟨false, .int⟩, ⟨false, .int⟩]), CutOk (fun _ _ _ _ => none) p := cutsNil (by kernel_rfl)
end Go.Proofs.YtcoiboghdmmdcacFn
