/- What the interpreter of code computes of these functions, part 3; no condition. -/
import Derived.Test.YtcoiboghdmmdcadGreatProg
import Derived.KernelRfl
import Derived.Test.YtcoiboghdmmdcadGreatPx25
import Derived.Test.YtcoiboghdmmdcadGreatFnsD
set_option linter.unusedVariables false
set_option linter.unusedSimpArgs false
namespace Go.Proofs.YtcoiboghdmmdcadGreatFn
open Go Go.RowKit Go.Proofs.YtcoiboghdmmdcadGreatPx
set_option maxHeartbeats 0 in
set_option maxRecDepth 5000000 in
def tendrilref15_Check_P10v0 (k : Nat) (vs : List SV) (bs : List Blk) : Option (Option (Int)) := match vs, bs with
  | [.val (.one (.ptr 0 0)), .val (.one (.ptr 1 0)), .val (.one (.int .i64 p0))], [.box [(.int .i64 p1), (.int .i64 p2), (.int .i64 p3), (.int .i64 p4), (.int .i64 p5)], .box [(.sl .int p6), (.sl .int p7), (.sl .int p8), (.sl .int p9), (.sl .int p10), (.sl .int p11), (.sl .int p12), (.sl .int p13), (.sl .int p14), (.sl .int p15), (.sl .int p16), (.sl .int p17), (.sl .int p18), (.sl .int p19), (.int .i64 p20), (.sl .int p21)]] => some (tendrilref15_Check_L10 k p0 p1 p2 p3 p4 p5 p6 p7 p8 p9 p10 p11 p12 p13 p14 p15 p16 p17 p18 p19 p20 p21)
  | _, _ => none
set_option maxHeartbeats 0 in
set_option maxRecDepth 5000000 in
def tendrilref15_Check_P24v0 (k : Nat) (vs : List SV) (bs : List Blk) : Option (Option (Int)) := match vs, bs with
  | [.val (.one (.sl .int p0)), .val (.one (.int .i64 p1)), .val (.one (.int .i64 p2))], [] => some (tendrilref15_Check_L24 k p0 p1 p2)
  | _, _ => none
def tendrilref15_Check_P10 (k : Nat) (vs : List SV) (bs : List Blk) : Option (Int) := match tendrilref15_Check_P10v0 k vs bs with | some r => r | none => none
def tendrilref15_Check_P24 (k : Nat) (vs : List SV) (bs : List Blk) : Option (Int) := match tendrilref15_Check_P24v0 k vs bs with | some r => r | none => none
def tendrilref15_Check_Λ (k L : Nat) (vs : List SV) (bs : List Blk) : Option (Int) := match Nat.beq L 10 with | true => tendrilref15_Check_P10 k vs bs | false => match Nat.beq L 24 with | true => tendrilref15_Check_P24 k vs bs | false => none
noncomputable def tendrilref15_Check_C : List (Cut (Tup [⟨false, .int⟩])) := cuts Tryz.prog (lkΓ [(51, tendrilref03_Check_S), (52, tendrilref07_Check_S), (53, tendrilref03_Size_S), (54, tendrilref03_Cap_S)]) Tryz.f20.ntmps [(24, [55, 56, 57]), (10, [2, 3, 35])] (bodyOf Tryz.f20) (κ0 Tryz.prog Tryz.f20 false [⟨false, .int⟩])
set_option maxRecDepth 5000000 in
theorem tendrilref15_Check_c10 (k : Nat) (p0 : Int) (p1 : Int) (p2 : Int) (p3 : Int) (p4 : Int) (p5 : Int) (p6 : List Int) (p7 : List Int) (p8 : List Int) (p9 : List Int) (p10 : List Int) (p11 : List Int) (p12 : List Int) (p13 : List Int) (p14 : List Int) (p15 : List Int) (p16 : List Int) (p17 : List Int) (p18 : List Int) (p19 : List Int) (p20 : Int) (p21 : List Int) : ((nthC tendrilref15_Check_C 0).g (mkSt [2, 3, 35] [.val (.one (.ptr 0 0)), .val (.one (.ptr 1 0)), .val (.one (.int .i64 p0))] [.box [(.int .i64 p1), (.int .i64 p2), (.int .i64 p3), (.int .i64 p4), (.int .i64 p5)], .box [(.sl .int p6), (.sl .int p7), (.sl .int p8), (.sl .int p9), (.sl .int p10), (.sl .int p11), (.sl .int p12), (.sl .int p13), (.sl .int p14), (.sl .int p15), (.sl .int p16), (.sl .int p17), (.sl .int p18), (.sl .int p19), (.int .i64 p20), (.sl .int p21)]])).run (tendrilref15_Check_Λ k) = tendrilref15_Check_L10 (k + 1) p0 p1 p2 p3 p4 p5 p6 p7 p8 p9 p10 p11 p12 p13 p14 p15 p16 p17 p18 p19 p20 p21 := by kernel_rfl
set_option maxHeartbeats 0 in
set_option maxRecDepth 5000000 in
theorem tendrilref15_Check_e10 (k : Nat) (vs : List SV) (bs : List Blk) (r : Int) (h : tendrilref15_Check_P10v0 (k + 1) vs bs = some (some r)) : ((nthC tendrilref15_Check_C 0).g (mkSt [2, 3, 35] vs bs)).run (tendrilref15_Check_Λ k) = some r := by
  unfold tendrilref15_Check_P10v0 at h
  split at h
  · exact (tendrilref15_Check_c10 k _ _ _ _ _ _ _ _ _ _ _ _ _ _ _ _ _ _ _ _ _ _).trans (Option.some.inj h)
  · cases h
set_option maxRecDepth 5000000 in
theorem tendrilref15_Check_c24 (k : Nat) (p0 : List Int) (p1 : Int) (p2 : Int) : ((nthC tendrilref15_Check_C 1).g (mkSt [55, 56, 57] [.val (.one (.sl .int p0)), .val (.one (.int .i64 p1)), .val (.one (.int .i64 p2))] [])).run (tendrilref15_Check_Λ k) = tendrilref15_Check_L24 (k + 1) p0 p1 p2 := by kernel_rfl
set_option maxHeartbeats 0 in
set_option maxRecDepth 5000000 in
theorem tendrilref15_Check_e24 (k : Nat) (vs : List SV) (bs : List Blk) (r : Int) (h : tendrilref15_Check_P24v0 (k + 1) vs bs = some (some r)) : ((nthC tendrilref15_Check_C 1).g (mkSt [55, 56, 57] vs bs)).run (tendrilref15_Check_Λ k) = some r := by
  unfold tendrilref15_Check_P24v0 at h
  split at h
  · exact (tendrilref15_Check_c24 k _ _ _).trans (Option.some.inj h)
  · cases h
theorem tendrilref15_Check_d10 : CutOk tendrilref15_Check_Λ (nthC tendrilref15_Check_C 0) := by
  refine cutOk_of (L := 10) (live := [2, 3, 35]) (by kernel_rfl) (by kernel_rfl) fun k vs bs r h => ?_
  change tendrilref15_Check_P10 (k + 1) vs bs = some r at h
  unfold tendrilref15_Check_P10 at h
  split at h
  · rename_i q hq
    exact tendrilref15_Check_e10 k vs bs r (hq.trans (congrArg some h))
  cases h
theorem tendrilref15_Check_d24 : CutOk tendrilref15_Check_Λ (nthC tendrilref15_Check_C 1) := by
  refine cutOk_of (L := 24) (live := [55, 56, 57]) (by kernel_rfl) (by kernel_rfl) fun k vs bs r h => ?_
  change tendrilref15_Check_P24 (k + 1) vs bs = some r at h
  unfold tendrilref15_Check_P24 at h
  split at h
  · rename_i q hq
    exact tendrilref15_Check_e24 k vs bs r (hq.trans (congrArg some h))
  cases h
theorem tendrilref15_Check_cuts : ∀ p ∈ cuts Tryz.prog (lkΓ [(51, tendrilref03_Check_S), (52, tendrilref07_Check_S), (53, tendrilref03_Size_S), (54, tendrilref03_Cap_S)]) Tryz.f20.ntmps [(24, [55, 56, 57]), (10, [2, 3, 35])] (bodyOf Tryz.f20) (κ0 Tryz.prog Tryz.f20 false [⟨false, .int⟩]), CutOk tendrilref15_Check_Λ p := cutsOk (l := tendrilref15_Check_C) (n := 2) (by kernel_rfl) fun
  | 0, _ => tendrilref15_Check_d10
  | 1, _ => tendrilref15_Check_d24
  | k + 2, h => absurd h (by omega)
set_option maxHeartbeats 0 in
set_option maxRecDepth 5000000 in
theorem tendrilref15_Check_z10 (vs : List SV) (bs : List Blk) (q : Option (Int)) (h : tendrilref15_Check_P10v0 0 vs bs = some q) : q = none := by
  unfold tendrilref15_Check_P10v0 at h; split at h
  · have h := Option.some.inj h; rw [← h]; first | rfl | (unfold tendrilref15_Check_L10; rfl)
  · cases h
set_option maxHeartbeats 0 in
set_option maxRecDepth 5000000 in
theorem tendrilref15_Check_z24 (vs : List SV) (bs : List Blk) (q : Option (Int)) (h : tendrilref15_Check_P24v0 0 vs bs = some q) : q = none := by
  unfold tendrilref15_Check_P24v0 at h; split at h
  · have h := Option.some.inj h; rw [← h]; first | rfl | (unfold tendrilref15_Check_L24; rfl)
  · cases h
theorem tendrilref15_Check_Λ0 (L : Nat) (vs : List SV) (bs : List Blk) : tendrilref15_Check_Λ 0 L vs bs = none := by
  unfold tendrilref15_Check_Λ
  split
  · unfold tendrilref15_Check_P10
    split
    · rename_i q hq; exact tendrilref15_Check_z10 _ _ q hq
    rfl
  split
  · unfold tendrilref15_Check_P24
    split
    · rename_i q hq; exact tendrilref15_Check_z24 _ _ q hq
    rfl
  rfl
set_option maxRecDepth 5000000 in
theorem tendrilref15_Check_run (K : Nat) (x : Tup [⟨true, (.pair .int (.pair .int (.pair .int (.pair .int .int))))⟩, ⟨true, (.pair (.sl .int) (.pair (.sl .int) (.pair (.pair (.pair (.sl .int) (.pair (.sl .int) (.pair (.sl .int) (.sl .int)))) (.pair (.pair (.sl .int) (.pair (.sl .int) (.pair (.sl .int) (.sl .int)))) (.pair (.sl .int) (.pair (.sl .int) (.pair (.sl .int) (.sl .int)))))) (.pair .int (.sl .int)))))⟩]) : (pxFn Tryz.prog (lkΓ [(51, tendrilref03_Check_S), (52, tendrilref07_Check_S), (53, tendrilref03_Size_S), (54, tendrilref03_Cap_S)]) [(24, [55, 56, 57]), (10, [2, 3, 35])] Tryz.f20 (bodyOf Tryz.f20) false [⟨false, .int⟩] (encTup [⟨true, (.pair .int (.pair .int (.pair .int (.pair .int .int))))⟩, ⟨true, (.pair (.sl .int) (.pair (.sl .int) (.pair (.pair (.pair (.sl .int) (.pair (.sl .int) (.pair (.sl .int) (.sl .int)))) (.pair (.pair (.sl .int) (.pair (.sl .int) (.pair (.sl .int) (.sl .int)))) (.pair (.sl .int) (.pair (.sl .int) (.pair (.sl .int) (.sl .int)))))) (.pair .int (.sl .int)))))⟩] x)).run (tendrilref15_Check_Λ K) = tendrilref15_Check_K K x := by kernel_rfl
set_option maxHeartbeats 0 in
set_option maxRecDepth 5000000 in
def tendrilref05_Reclaim_P14v0 (k : Nat) (vs : List SV) (bs : List Blk) : Option (Option ((List Int × List Int × List Int × List Int) × Int)) := match vs, bs with
  | [.val (.one (.int .i64 p0)), .val (.one (.ptr 0 0)), .val (.one (.ptr 1 0)), .val (.one (.ptr 2 0)), .val (.one (.int .i64 p1)), .val (.one (.int .i64 p2)), .val (.one (.int .i64 p3))], [.box [(.sl .int p4), (.sl .int p5), (.sl .int p6), (.sl .int p7)], .box [.nil, .nil, .nil, .nil], .box [(.row 3), (.row 4), (.row 5), (.row 6)], .row .int p8, .row .int p9, .row .int p10, .row .int p11] => some (tendrilref05_Reclaim_L14 k p0 p1 p2 p3 p4 p5 p6 p7 p8 p9 p10 p11)
  | _, _ => none
def tendrilref05_Reclaim_P14 (k : Nat) (vs : List SV) (bs : List Blk) : Option ((List Int × List Int × List Int × List Int) × Int) := match tendrilref05_Reclaim_P14v0 k vs bs with | some r => r | none => none
def tendrilref05_Reclaim_Λ (k L : Nat) (vs : List SV) (bs : List Blk) : Option ((List Int × List Int × List Int × List Int) × Int) := match Nat.beq L 14 with | true => tendrilref05_Reclaim_P14 k vs bs | false => none
noncomputable def tendrilref05_Reclaim_C : List (Cut (Tup [⟨true, (.pair (.sl .int) (.pair (.sl .int) (.pair (.sl .int) (.sl .int))))⟩, ⟨false, .int⟩])) := cuts Tryz.prog (lkΓ [(85, tendrilref05_Check_S), (109, tendrilref05_Copy_S)]) Tryz.f106.ntmps [(14, [1, 2, 4, 6, 7, 17, 18])] (bodyOf Tryz.f106) (κ0 Tryz.prog Tryz.f106 true [⟨true, (.pair (.sl .int) (.pair (.sl .int) (.pair (.sl .int) (.sl .int))))⟩, ⟨false, .int⟩])
set_option maxRecDepth 5000000 in
theorem tendrilref05_Reclaim_c14 (k : Nat) (p0 : Int) (p1 : Int) (p2 : Int) (p3 : Int) (p4 : List Int) (p5 : List Int) (p6 : List Int) (p7 : List Int) (p8 : List Int) (p9 : List Int) (p10 : List Int) (p11 : List Int) : ((nthC tendrilref05_Reclaim_C 0).g (mkSt [1, 2, 4, 6, 7, 17, 18] [.val (.one (.int .i64 p0)), .val (.one (.ptr 0 0)), .val (.one (.ptr 1 0)), .val (.one (.ptr 2 0)), .val (.one (.int .i64 p1)), .val (.one (.int .i64 p2)), .val (.one (.int .i64 p3))] [.box [(.sl .int p4), (.sl .int p5), (.sl .int p6), (.sl .int p7)], .box [.nil, .nil, .nil, .nil], .box [(.row 3), (.row 4), (.row 5), (.row 6)], .row .int p8, .row .int p9, .row .int p10, .row .int p11])).run (tendrilref05_Reclaim_Λ k) = tendrilref05_Reclaim_L14 (k + 1) p0 p1 p2 p3 p4 p5 p6 p7 p8 p9 p10 p11 := by kernel_rfl
set_option maxHeartbeats 0 in
set_option maxRecDepth 5000000 in
theorem tendrilref05_Reclaim_e14 (k : Nat) (vs : List SV) (bs : List Blk) (r : ((List Int) × ((List Int) × ((List Int) × (List Int)))) × Int) (h : tendrilref05_Reclaim_P14v0 (k + 1) vs bs = some (some r)) : ((nthC tendrilref05_Reclaim_C 0).g (mkSt [1, 2, 4, 6, 7, 17, 18] vs bs)).run (tendrilref05_Reclaim_Λ k) = some r := by
  unfold tendrilref05_Reclaim_P14v0 at h
  split at h
  · exact (tendrilref05_Reclaim_c14 k _ _ _ _ _ _ _ _ _ _ _ _).trans (Option.some.inj h)
  · cases h
theorem tendrilref05_Reclaim_d14 : CutOk tendrilref05_Reclaim_Λ (nthC tendrilref05_Reclaim_C 0) := by
  refine cutOk_of (L := 14) (live := [1, 2, 4, 6, 7, 17, 18]) (by kernel_rfl) (by kernel_rfl) fun k vs bs r h => ?_
  change tendrilref05_Reclaim_P14 (k + 1) vs bs = some r at h
  unfold tendrilref05_Reclaim_P14 at h
  split at h
  · rename_i q hq
    exact tendrilref05_Reclaim_e14 k vs bs r (hq.trans (congrArg some h))
  cases h
theorem tendrilref05_Reclaim_cuts : ∀ p ∈ cuts Tryz.prog (lkΓ [(85, tendrilref05_Check_S), (109, tendrilref05_Copy_S)]) Tryz.f106.ntmps [(14, [1, 2, 4, 6, 7, 17, 18])] (bodyOf Tryz.f106) (κ0 Tryz.prog Tryz.f106 true [⟨true, (.pair (.sl .int) (.pair (.sl .int) (.pair (.sl .int) (.sl .int))))⟩, ⟨false, .int⟩]), CutOk tendrilref05_Reclaim_Λ p := cutsOk (l := tendrilref05_Reclaim_C) (n := 1) (by kernel_rfl) fun
  | 0, _ => tendrilref05_Reclaim_d14
  | k + 1, h => absurd h (by omega)
set_option maxHeartbeats 0 in
set_option maxRecDepth 5000000 in
theorem tendrilref05_Reclaim_z14 (vs : List SV) (bs : List Blk) (q : Option (((List Int) × ((List Int) × ((List Int) × (List Int)))) × Int)) (h : tendrilref05_Reclaim_P14v0 0 vs bs = some q) : q = none := by
  unfold tendrilref05_Reclaim_P14v0 at h; split at h
  · have h := Option.some.inj h; rw [← h]; first | rfl | (unfold tendrilref05_Reclaim_L14; rfl)
  · cases h
theorem tendrilref05_Reclaim_Λ0 (L : Nat) (vs : List SV) (bs : List Blk) : tendrilref05_Reclaim_Λ 0 L vs bs = none := by
  unfold tendrilref05_Reclaim_Λ
  split
  · unfold tendrilref05_Reclaim_P14
    split
    · rename_i q hq; exact tendrilref05_Reclaim_z14 _ _ q hq
    rfl
  rfl
set_option maxRecDepth 5000000 in
theorem tendrilref05_Reclaim_run (K : Nat) (x : Tup [⟨true, (.pair (.sl .int) (.pair (.sl .int) (.pair (.sl .int) (.sl .int))))⟩, ⟨false, .int⟩]) : (pxFn Tryz.prog (lkΓ [(85, tendrilref05_Check_S), (109, tendrilref05_Copy_S)]) [(14, [1, 2, 4, 6, 7, 17, 18])] Tryz.f106 (bodyOf Tryz.f106) true [⟨true, (.pair (.sl .int) (.pair (.sl .int) (.pair (.sl .int) (.sl .int))))⟩, ⟨false, .int⟩] (encTup [⟨true, (.pair (.sl .int) (.pair (.sl .int) (.pair (.sl .int) (.sl .int))))⟩, ⟨false, .int⟩] x)).run (tendrilref05_Reclaim_Λ K) = tendrilref05_Reclaim_K K x := by kernel_rfl
set_option maxHeartbeats 0 in
set_option maxRecDepth 5000000 in
def tendrilref03_Field_P14v0 (k : Nat) (vs : List SV) (bs : List Blk) : Option (Option (Int × Int)) := match vs, bs with
  | [.val (.one (.int .i64 p0)), .val (.one (.int .i64 p1)), .val (.one (.int .i64 p2)), .val (.one (.ptr 0 0)), .val (.one (.int .i64 p3)), .val (.one (.int .i64 p4)), .val (.one (.int .i64 p5))], [.box [(.int .i64 p6), (.int .i64 p7), (.int .i64 p8), (.int .i64 p9), (.int .i64 p10)]] => some (tendrilref03_Field_L14 k p0 p1 p2 p3 p4 p5 p6 p7 p8 p9 p10)
  | _, _ => none
def tendrilref03_Field_P14 (k : Nat) (vs : List SV) (bs : List Blk) : Option (Int × Int) := match tendrilref03_Field_P14v0 k vs bs with | some r => r | none => none
def tendrilref03_Field_Λ (k L : Nat) (vs : List SV) (bs : List Blk) : Option (Int × Int) := match Nat.beq L 14 with | true => tendrilref03_Field_P14 k vs bs | false => none
noncomputable def tendrilref03_Field_C : List (Cut (Tup [⟨false, .int⟩, ⟨false, .int⟩])) := cuts Tryz.prog (lkΓ [(51, tendrilref03_Check_S), (54, tendrilref03_Cap_S)]) Tryz.f108.ntmps [(14, [1, 2, 3, 4, 11, 12, 13])] (bodyOf Tryz.f108) (κ0 Tryz.prog Tryz.f108 false [⟨false, .int⟩, ⟨false, .int⟩])
set_option maxRecDepth 5000000 in
theorem tendrilref03_Field_c14 (k : Nat) (p0 : Int) (p1 : Int) (p2 : Int) (p3 : Int) (p4 : Int) (p5 : Int) (p6 : Int) (p7 : Int) (p8 : Int) (p9 : Int) (p10 : Int) : ((nthC tendrilref03_Field_C 0).g (mkSt [1, 2, 3, 4, 11, 12, 13] [.val (.one (.int .i64 p0)), .val (.one (.int .i64 p1)), .val (.one (.int .i64 p2)), .val (.one (.ptr 0 0)), .val (.one (.int .i64 p3)), .val (.one (.int .i64 p4)), .val (.one (.int .i64 p5))] [.box [(.int .i64 p6), (.int .i64 p7), (.int .i64 p8), (.int .i64 p9), (.int .i64 p10)]])).run (tendrilref03_Field_Λ k) = tendrilref03_Field_L14 (k + 1) p0 p1 p2 p3 p4 p5 p6 p7 p8 p9 p10 := by kernel_rfl
set_option maxHeartbeats 0 in
set_option maxRecDepth 5000000 in
theorem tendrilref03_Field_e14 (k : Nat) (vs : List SV) (bs : List Blk) (r : Int × Int) (h : tendrilref03_Field_P14v0 (k + 1) vs bs = some (some r)) : ((nthC tendrilref03_Field_C 0).g (mkSt [1, 2, 3, 4, 11, 12, 13] vs bs)).run (tendrilref03_Field_Λ k) = some r := by
  unfold tendrilref03_Field_P14v0 at h
  split at h
  · exact (tendrilref03_Field_c14 k _ _ _ _ _ _ _ _ _ _ _).trans (Option.some.inj h)
  · cases h
theorem tendrilref03_Field_d14 : CutOk tendrilref03_Field_Λ (nthC tendrilref03_Field_C 0) := by
  refine cutOk_of (L := 14) (live := [1, 2, 3, 4, 11, 12, 13]) (by kernel_rfl) (by kernel_rfl) fun k vs bs r h => ?_
  change tendrilref03_Field_P14 (k + 1) vs bs = some r at h
  unfold tendrilref03_Field_P14 at h
  split at h
  · rename_i q hq
    exact tendrilref03_Field_e14 k vs bs r (hq.trans (congrArg some h))
  cases h
theorem tendrilref03_Field_cuts : ∀ p ∈ cuts Tryz.prog (lkΓ [(51, tendrilref03_Check_S), (54, tendrilref03_Cap_S)]) Tryz.f108.ntmps [(14, [1, 2, 3, 4, 11, 12, 13])] (bodyOf Tryz.f108) (κ0 Tryz.prog Tryz.f108 false [⟨false, .int⟩, ⟨false, .int⟩]), CutOk tendrilref03_Field_Λ p := cutsOk (l := tendrilref03_Field_C) (n := 1) (by kernel_rfl) fun
  | 0, _ => tendrilref03_Field_d14
  | k + 1, h => absurd h (by omega)
set_option maxHeartbeats 0 in
set_option maxRecDepth 5000000 in
theorem tendrilref03_Field_z14 (vs : List SV) (bs : List Blk) (q : Option (Int × Int)) (h : tendrilref03_Field_P14v0 0 vs bs = some q) : q = none := by
  unfold tendrilref03_Field_P14v0 at h; split at h
  · have h := Option.some.inj h; rw [← h]; first | rfl | (unfold tendrilref03_Field_L14; rfl)
  · cases h
theorem tendrilref03_Field_Λ0 (L : Nat) (vs : List SV) (bs : List Blk) : tendrilref03_Field_Λ 0 L vs bs = none := by
  unfold tendrilref03_Field_Λ
  split
  · unfold tendrilref03_Field_P14
    split
    · rename_i q hq; exact tendrilref03_Field_z14 _ _ q hq
    rfl
  rfl
set_option maxRecDepth 5000000 in
theorem tendrilref03_Field_run (K : Nat) (x : Tup [⟨true, (.pair .int (.pair .int (.pair .int (.pair .int .int))))⟩, ⟨false, .int⟩, ⟨false, .int⟩, ⟨false, .int⟩]) : (pxFn Tryz.prog (lkΓ [(51, tendrilref03_Check_S), (54, tendrilref03_Cap_S)]) [(14, [1, 2, 3, 4, 11, 12, 13])] Tryz.f108 (bodyOf Tryz.f108) false [⟨false, .int⟩, ⟨false, .int⟩] (encTup [⟨true, (.pair .int (.pair .int (.pair .int (.pair .int .int))))⟩, ⟨false, .int⟩, ⟨false, .int⟩, ⟨false, .int⟩] x)).run (tendrilref03_Field_Λ K) = tendrilref03_Field_K K x := by kernel_rfl
set_option maxHeartbeats 0 in
set_option maxRecDepth 5000000 in
def slices_IndexFunc_shape_Check_1_P6v0 (k : Nat) (vs : List SV) (bs : List Blk) : Option (Option (Int)) := match vs, bs with
  | [.val (.one (.sl .int p0)), .val (.one (.func 36 [])), .val (.one (.int .i64 p1)), .val (.one (.int .i64 p2))], [] => some (slices_IndexFunc_shape_Check_1_L6 k p0 p1 p2)
  | _, _ => none
def slices_IndexFunc_shape_Check_1_P6 (k : Nat) (vs : List SV) (bs : List Blk) : Option (Int) := match slices_IndexFunc_shape_Check_1_P6v0 k vs bs with | some r => r | none => none
def slices_IndexFunc_shape_Check_1_Λ (k L : Nat) (vs : List SV) (bs : List Blk) : Option (Int) := match Nat.beq L 6 with | true => slices_IndexFunc_shape_Check_1_P6 k vs bs | false => none
noncomputable def slices_IndexFunc_shape_Check_1_C : List (Cut (Tup [⟨false, .int⟩])) := cuts Tryz.prog (lkΓ [(36, shape_Check_1_S)]) Tryz.f75.ntmps [(6, [0, 1, 7, 8])] (bodyOf Tryz.f75) (κ0 Tryz.prog Tryz.f75 false [⟨false, .int⟩])
set_option maxRecDepth 5000000 in
theorem slices_IndexFunc_shape_Check_1_c6 (k : Nat) (p0 : List Int) (p1 : Int) (p2 : Int) : ((nthC slices_IndexFunc_shape_Check_1_C 0).g (mkSt [0, 1, 7, 8] [.val (.one (.sl .int p0)), .val (.one (.func 36 [])), .val (.one (.int .i64 p1)), .val (.one (.int .i64 p2))] [])).run (slices_IndexFunc_shape_Check_1_Λ k) = slices_IndexFunc_shape_Check_1_L6 (k + 1) p0 p1 p2 := by kernel_rfl
set_option maxHeartbeats 0 in
set_option maxRecDepth 5000000 in
theorem slices_IndexFunc_shape_Check_1_e6 (k : Nat) (vs : List SV) (bs : List Blk) (r : Int) (h : slices_IndexFunc_shape_Check_1_P6v0 (k + 1) vs bs = some (some r)) : ((nthC slices_IndexFunc_shape_Check_1_C 0).g (mkSt [0, 1, 7, 8] vs bs)).run (slices_IndexFunc_shape_Check_1_Λ k) = some r := by
  unfold slices_IndexFunc_shape_Check_1_P6v0 at h
  split at h
  · exact (slices_IndexFunc_shape_Check_1_c6 k _ _ _).trans (Option.some.inj h)
  · cases h
theorem slices_IndexFunc_shape_Check_1_d6 : CutOk slices_IndexFunc_shape_Check_1_Λ (nthC slices_IndexFunc_shape_Check_1_C 0) := by
  refine cutOk_of (L := 6) (live := [0, 1, 7, 8]) (by kernel_rfl) (by kernel_rfl) fun k vs bs r h => ?_
  change slices_IndexFunc_shape_Check_1_P6 (k + 1) vs bs = some r at h
  unfold slices_IndexFunc_shape_Check_1_P6 at h
  split at h
  · rename_i q hq
    exact slices_IndexFunc_shape_Check_1_e6 k vs bs r (hq.trans (congrArg some h))
  cases h
theorem slices_IndexFunc_shape_Check_1_cuts : ∀ p ∈ cuts Tryz.prog (lkΓ [(36, shape_Check_1_S)]) Tryz.f75.ntmps [(6, [0, 1, 7, 8])] (bodyOf Tryz.f75) (κ0 Tryz.prog Tryz.f75 false [⟨false, .int⟩]), CutOk slices_IndexFunc_shape_Check_1_Λ p := cutsOk (l := slices_IndexFunc_shape_Check_1_C) (n := 1) (by kernel_rfl) fun
  | 0, _ => slices_IndexFunc_shape_Check_1_d6
  | k + 1, h => absurd h (by omega)
set_option maxHeartbeats 0 in
set_option maxRecDepth 5000000 in
theorem slices_IndexFunc_shape_Check_1_z6 (vs : List SV) (bs : List Blk) (q : Option (Int)) (h : slices_IndexFunc_shape_Check_1_P6v0 0 vs bs = some q) : q = none := by
  unfold slices_IndexFunc_shape_Check_1_P6v0 at h; split at h
  · have h := Option.some.inj h; rw [← h]; first | rfl | (unfold slices_IndexFunc_shape_Check_1_L6; rfl)
  · cases h
theorem slices_IndexFunc_shape_Check_1_Λ0 (L : Nat) (vs : List SV) (bs : List Blk) : slices_IndexFunc_shape_Check_1_Λ 0 L vs bs = none := by
  unfold slices_IndexFunc_shape_Check_1_Λ
  split
  · unfold slices_IndexFunc_shape_Check_1_P6
    split
    · rename_i q hq; exact slices_IndexFunc_shape_Check_1_z6 _ _ q hq
    rfl
  rfl
set_option maxRecDepth 5000000 in
theorem slices_IndexFunc_shape_Check_1_run (K : Nat) (x : Tup [⟨false, (.sl .int)⟩, ⟨false, (.fn 36)⟩]) : (pxFn Tryz.prog (lkΓ [(36, shape_Check_1_S)]) [(6, [0, 1, 7, 8])] Tryz.f75 (bodyOf Tryz.f75) false [⟨false, .int⟩] (encTup [⟨false, (.sl .int)⟩, ⟨false, (.fn 36)⟩] x)).run (slices_IndexFunc_shape_Check_1_Λ K) = slices_IndexFunc_shape_Check_1_K K x := by kernel_rfl
set_option maxHeartbeats 0 in
set_option maxRecDepth 5000000 in
def slices_Repeat_P18v0 (k : Nat) (vs : List SV) (bs : List Blk) : Option (Option (List Int)) := match vs, bs with
  | [.val (.one (.row 0)), .val (.one (.int .i64 p0))], [.row .int p1] => some (slices_Repeat_L18 k p0 p1)
  | _, _ => none
def slices_Repeat_P18 (k : Nat) (vs : List SV) (bs : List Blk) : Option (List Int) := match slices_Repeat_P18v0 k vs bs with | some r => r | none => none
def slices_Repeat_Λ (k L : Nat) (vs : List SV) (bs : List Blk) : Option (List Int) := match Nat.beq L 18 with | true => slices_Repeat_P18 k vs bs | false => none
noncomputable def slices_Repeat_C : List (Cut (Tup [⟨false, (.sl .int)⟩])) := cuts Tryz.prog (lkΓ [(111, math_bits_Mul_S), (flagK, flagS)]) Tryz.f94.ntmps [(18, [7, 8])] (bodyOf Tryz.f94) (κ0 Tryz.prog Tryz.f94 true [⟨false, (.sl .int)⟩])
set_option maxRecDepth 5000000 in
theorem slices_Repeat_c18 (k : Nat) (p0 : Int) (p1 : List Int) : ((nthC slices_Repeat_C 0).g (mkSt [7, 8] [.val (.one (.row 0)), .val (.one (.int .i64 p0))] [.row .int p1])).run (slices_Repeat_Λ k) = slices_Repeat_L18 (k + 1) p0 p1 := by kernel_rfl
set_option maxHeartbeats 0 in
set_option maxRecDepth 5000000 in
theorem slices_Repeat_e18 (k : Nat) (vs : List SV) (bs : List Blk) (r : (List Int)) (h : slices_Repeat_P18v0 (k + 1) vs bs = some (some r)) : ((nthC slices_Repeat_C 0).g (mkSt [7, 8] vs bs)).run (slices_Repeat_Λ k) = some r := by
  unfold slices_Repeat_P18v0 at h
  split at h
  · exact (slices_Repeat_c18 k _ _).trans (Option.some.inj h)
  · cases h
theorem slices_Repeat_d18 : CutOk slices_Repeat_Λ (nthC slices_Repeat_C 0) := by
  refine cutOk_of (L := 18) (live := [7, 8]) (by kernel_rfl) (by kernel_rfl) fun k vs bs r h => ?_
  change slices_Repeat_P18 (k + 1) vs bs = some r at h
  unfold slices_Repeat_P18 at h
  split at h
  · rename_i q hq
    exact slices_Repeat_e18 k vs bs r (hq.trans (congrArg some h))
  cases h
theorem slices_Repeat_cuts : ∀ p ∈ cuts Tryz.prog (lkΓ [(111, math_bits_Mul_S), (flagK, flagS)]) Tryz.f94.ntmps [(18, [7, 8])] (bodyOf Tryz.f94) (κ0 Tryz.prog Tryz.f94 true [⟨false, (.sl .int)⟩]), CutOk slices_Repeat_Λ p := cutsOk (l := slices_Repeat_C) (n := 1) (by kernel_rfl) fun
  | 0, _ => slices_Repeat_d18
  | k + 1, h => absurd h (by omega)
set_option maxHeartbeats 0 in
set_option maxRecDepth 5000000 in
theorem slices_Repeat_z18 (vs : List SV) (bs : List Blk) (q : Option ((List Int))) (h : slices_Repeat_P18v0 0 vs bs = some q) : q = none := by
  unfold slices_Repeat_P18v0 at h; split at h
  · have h := Option.some.inj h; rw [← h]; first | rfl | (unfold slices_Repeat_L18; rfl)
  · cases h
theorem slices_Repeat_Λ0 (L : Nat) (vs : List SV) (bs : List Blk) : slices_Repeat_Λ 0 L vs bs = none := by
  unfold slices_Repeat_Λ
  split
  · unfold slices_Repeat_P18
    split
    · rename_i q hq; exact slices_Repeat_z18 _ _ q hq
    rfl
  rfl
set_option maxRecDepth 5000000 in
theorem slices_Repeat_run (K : Nat) (x : Tup [⟨false, (.sl .int)⟩, ⟨false, .int⟩]) : (pxFn Tryz.prog (lkΓ [(111, math_bits_Mul_S), (flagK, flagS)]) [(18, [7, 8])] Tryz.f94 (bodyOf Tryz.f94) true [⟨false, (.sl .int)⟩] (encTup [⟨false, (.sl .int)⟩, ⟨false, .int⟩] x)).run (slices_Repeat_Λ K) = slices_Repeat_K K x := by kernel_rfl
set_option maxRecDepth 5000000 in
theorem ask_records_run (x : Tup [⟨true, (.pair (.sl .int) (.pair (.sl .int) (.pair (.pair (.pair (.sl .int) (.pair (.sl .int) (.pair (.sl .int) (.sl .int)))) (.pair (.pair (.sl .int) (.pair (.sl .int) (.pair (.sl .int) (.sl .int)))) (.pair (.sl .int) (.pair (.sl .int) (.pair (.sl .int) (.sl .int)))))) (.pair .int (.sl .int)))))⟩, ⟨false, .int⟩, ⟨true, (.pair .int (.pair .int (.pair .int (.pair .int (.pair .int .int)))))⟩]) : (pxFn Tryz.prog (lkΓ [(47, arena_Pin_S), (48, arena_End_S), (49, arena_Retire_S), (50, arena_Take_S)]) [] Tryz.f19 (bodyOf Tryz.f19) false [⟨true, (.pair (.sl .int) (.pair (.sl .int) (.pair (.pair (.pair (.sl .int) (.pair (.sl .int) (.pair (.sl .int) (.sl .int)))) (.pair (.pair (.sl .int) (.pair (.sl .int) (.pair (.sl .int) (.sl .int)))) (.pair (.sl .int) (.pair (.sl .int) (.pair (.sl .int) (.sl .int)))))) (.pair .int (.sl .int)))))⟩, ⟨false, .int⟩, ⟨false, .int⟩] (encTup [⟨true, (.pair (.sl .int) (.pair (.sl .int) (.pair (.pair (.pair (.sl .int) (.pair (.sl .int) (.pair (.sl .int) (.sl .int)))) (.pair (.pair (.sl .int) (.pair (.sl .int) (.pair (.sl .int) (.sl .int)))) (.pair (.sl .int) (.pair (.sl .int) (.pair (.sl .int) (.sl .int)))))) (.pair .int (.sl .int)))))⟩, ⟨false, .int⟩, ⟨true, (.pair .int (.pair .int (.pair .int (.pair .int (.pair .int .int)))))⟩] x)).run (fun _ _ _ => none) = ask_records x := by kernel_rfl
theorem ask_records_cuts : ∀ p ∈ cuts Tryz.prog (lkΓ [(47, arena_Pin_S), (48, arena_End_S), (49, arena_Retire_S), (50, arena_Take_S)]) Tryz.f19.ntmps [] (bodyOf Tryz.f19) (κ0 Tryz.prog Tryz.f19 false [⟨true, (.pair (.sl .int) (.pair (.sl .int) (.pair (.pair (.pair (.sl .int) (.pair (.sl .int) (.pair (.sl .int) (.sl .int)))) (.pair (.pair (.sl .int) (.pair (.sl .int) (.pair (.sl .int) (.sl .int)))) (.pair (.sl .int) (.pair (.sl .int) (.pair (.sl .int) (.sl .int)))))) (.pair .int (.sl .int)))))⟩, ⟨false, .int⟩, ⟨false, .int⟩]), CutOk (fun _ _ _ _ => none) p := cutsNil (by kernel_rfl)
set_option maxRecDepth 5000000 in
theorem tendrilref07_Pin_run (x : Tup [⟨true, (.pair (.sl .int) (.pair (.sl .int) (.pair (.pair (.pair (.sl .int) (.pair (.sl .int) (.pair (.sl .int) (.sl .int)))) (.pair (.pair (.sl .int) (.pair (.sl .int) (.pair (.sl .int) (.sl .int)))) (.pair (.sl .int) (.pair (.sl .int) (.pair (.sl .int) (.sl .int)))))) (.pair .int (.sl .int)))))⟩, ⟨false, .int⟩]) : (pxFn Tryz.prog (lkΓ [(52, tendrilref07_Check_S), (88, tendrilref06_Pin_S)]) [] Tryz.f57 (bodyOf Tryz.f57) false [⟨true, (.pair (.sl .int) (.pair (.sl .int) (.pair (.pair (.pair (.sl .int) (.pair (.sl .int) (.pair (.sl .int) (.sl .int)))) (.pair (.pair (.sl .int) (.pair (.sl .int) (.pair (.sl .int) (.sl .int)))) (.pair (.sl .int) (.pair (.sl .int) (.pair (.sl .int) (.sl .int)))))) (.pair .int (.sl .int)))))⟩, ⟨false, .int⟩] (encTup [⟨true, (.pair (.sl .int) (.pair (.sl .int) (.pair (.pair (.pair (.sl .int) (.pair (.sl .int) (.pair (.sl .int) (.sl .int)))) (.pair (.pair (.sl .int) (.pair (.sl .int) (.pair (.sl .int) (.sl .int)))) (.pair (.sl .int) (.pair (.sl .int) (.pair (.sl .int) (.sl .int)))))) (.pair .int (.sl .int)))))⟩, ⟨false, .int⟩] x)).run (fun _ _ _ => none) = tendrilref07_Pin x := by kernel_rfl
theorem tendrilref07_Pin_cuts : ∀ p ∈ cuts Tryz.prog (lkΓ [(52, tendrilref07_Check_S), (88, tendrilref06_Pin_S)]) Tryz.f57.ntmps [] (bodyOf Tryz.f57) (κ0 Tryz.prog Tryz.f57 false [⟨true, (.pair (.sl .int) (.pair (.sl .int) (.pair (.pair (.pair (.sl .int) (.pair (.sl .int) (.pair (.sl .int) (.sl .int)))) (.pair (.pair (.sl .int) (.pair (.sl .int) (.pair (.sl .int) (.sl .int)))) (.pair (.sl .int) (.pair (.sl .int) (.pair (.sl .int) (.sl .int)))))) (.pair .int (.sl .int)))))⟩, ⟨false, .int⟩]), CutOk (fun _ _ _ _ => none) p := cutsNil (by kernel_rfl)
set_option maxRecDepth 5000000 in
theorem arena_Pin_run (x : Tup [⟨true, (.pair (.sl .int) (.pair (.sl .int) (.pair (.pair (.pair (.sl .int) (.pair (.sl .int) (.pair (.sl .int) (.sl .int)))) (.pair (.pair (.sl .int) (.pair (.sl .int) (.pair (.sl .int) (.sl .int)))) (.pair (.sl .int) (.pair (.sl .int) (.pair (.sl .int) (.sl .int)))))) (.pair .int (.sl .int)))))⟩, ⟨false, .int⟩]) : (pxFn Tryz.prog (lkΓ [(79, arena_may_S), (80, era_Pin_S)]) [] Tryz.f47 (bodyOf Tryz.f47) false [⟨true, (.pair (.sl .int) (.pair (.sl .int) (.pair (.pair (.pair (.sl .int) (.pair (.sl .int) (.pair (.sl .int) (.sl .int)))) (.pair (.pair (.sl .int) (.pair (.sl .int) (.pair (.sl .int) (.sl .int)))) (.pair (.sl .int) (.pair (.sl .int) (.pair (.sl .int) (.sl .int)))))) (.pair .int (.sl .int)))))⟩, ⟨false, .int⟩] (encTup [⟨true, (.pair (.sl .int) (.pair (.sl .int) (.pair (.pair (.pair (.sl .int) (.pair (.sl .int) (.pair (.sl .int) (.sl .int)))) (.pair (.pair (.sl .int) (.pair (.sl .int) (.pair (.sl .int) (.sl .int)))) (.pair (.sl .int) (.pair (.sl .int) (.pair (.sl .int) (.sl .int)))))) (.pair .int (.sl .int)))))⟩, ⟨false, .int⟩] x)).run (fun _ _ _ => none) = arena_Pin x := by kernel_rfl
theorem arena_Pin_cuts : ∀ p ∈ cuts Tryz.prog (lkΓ [(79, arena_may_S), (80, era_Pin_S)]) Tryz.f47.ntmps [] (bodyOf Tryz.f47) (κ0 Tryz.prog Tryz.f47 false [⟨true, (.pair (.sl .int) (.pair (.sl .int) (.pair (.pair (.pair (.sl .int) (.pair (.sl .int) (.pair (.sl .int) (.sl .int)))) (.pair (.pair (.sl .int) (.pair (.sl .int) (.pair (.sl .int) (.sl .int)))) (.pair (.sl .int) (.pair (.sl .int) (.pair (.sl .int) (.sl .int)))))) (.pair .int (.sl .int)))))⟩, ⟨false, .int⟩]), CutOk (fun _ _ _ _ => none) p := cutsNil (by kernel_rfl)
set_option maxRecDepth 5000000 in
theorem ask_has_run (x : Tup [⟨true, (.pair (.sl .int) (.pair (.sl .int) (.pair (.pair (.pair (.sl .int) (.pair (.sl .int) (.pair (.sl .int) (.sl .int)))) (.pair (.pair (.sl .int) (.pair (.sl .int) (.pair (.sl .int) (.sl .int)))) (.pair (.sl .int) (.pair (.sl .int) (.pair (.sl .int) (.sl .int)))))) (.pair .int (.sl .int)))))⟩, ⟨false, .int⟩]) : (pxFn Tryz.prog (lkΓ []) [] Tryz.f30 (bodyOf Tryz.f30) false [⟨false, .bool⟩] (encTup [⟨true, (.pair (.sl .int) (.pair (.sl .int) (.pair (.pair (.pair (.sl .int) (.pair (.sl .int) (.pair (.sl .int) (.sl .int)))) (.pair (.pair (.sl .int) (.pair (.sl .int) (.pair (.sl .int) (.sl .int)))) (.pair (.sl .int) (.pair (.sl .int) (.pair (.sl .int) (.sl .int)))))) (.pair .int (.sl .int)))))⟩, ⟨false, .int⟩] x)).run (fun _ _ _ => none) = ask_has x := by kernel_rfl
theorem ask_has_cuts : ∀ p ∈ cuts Tryz.prog (lkΓ []) Tryz.f30.ntmps [] (bodyOf Tryz.f30) (κ0 Tryz.prog Tryz.f30 false [⟨false, .bool⟩]), CutOk (fun _ _ _ _ => none) p := cutsNil (by kernel_rfl)
set_option maxRecDepth 5000000 in
theorem pool_Retire_run (x : Tup [⟨true, (.pair (.sl .int) (.pair (.sl .int) (.pair (.sl .int) (.sl .int))))⟩, ⟨false, .int⟩, ⟨false, .int⟩]) : (pxFn Tryz.prog (lkΓ [(42, tag_Unpack_S), (72, pool_Check_S), (103, pool_own_S)]) [] Tryz.f83 (bodyOf Tryz.f83) true [⟨true, (.pair (.sl .int) (.pair (.sl .int) (.pair (.sl .int) (.sl .int))))⟩, ⟨false, .int⟩] (encTup [⟨true, (.pair (.sl .int) (.pair (.sl .int) (.pair (.sl .int) (.sl .int))))⟩, ⟨false, .int⟩, ⟨false, .int⟩] x)).run (fun _ _ _ => none) = pool_Retire x := by kernel_rfl
theorem pool_Retire_cuts : ∀ p ∈ cuts Tryz.prog (lkΓ [(42, tag_Unpack_S), (72, pool_Check_S), (103, pool_own_S)]) Tryz.f83.ntmps [] (bodyOf Tryz.f83) (κ0 Tryz.prog Tryz.f83 true [⟨true, (.pair (.sl .int) (.pair (.sl .int) (.pair (.sl .int) (.sl .int))))⟩, ⟨false, .int⟩]), CutOk (fun _ _ _ _ => none) p := cutsNil (by kernel_rfl)
set_option maxRecDepth 5000000 in
theorem chain_Field_run (x : Tup [⟨true, (.pair .int (.pair .int (.pair .int (.pair .int .int))))⟩, ⟨false, (.sl .int)⟩, ⟨false, .int⟩, ⟨false, .int⟩, ⟨false, .int⟩]) : (pxFn Tryz.prog (lkΓ [(39, mem_Load_S), (76, chain_where_S)]) [] Tryz.f38 (bodyOf Tryz.f38) false [⟨false, .int⟩, ⟨false, .int⟩] (encTup [⟨true, (.pair .int (.pair .int (.pair .int (.pair .int .int))))⟩, ⟨false, (.sl .int)⟩, ⟨false, .int⟩, ⟨false, .int⟩, ⟨false, .int⟩] x)).run (fun _ _ _ => none) = chain_Field x := by kernel_rfl
theorem chain_Field_cuts : ∀ p ∈ cuts Tryz.prog (lkΓ [(39, mem_Load_S), (76, chain_where_S)]) Tryz.f38.ntmps [] (bodyOf Tryz.f38) (κ0 Tryz.prog Tryz.f38 false [⟨false, .int⟩, ⟨false, .int⟩]), CutOk (fun _ _ _ _ => none) p := cutsNil (by kernel_rfl)
set_option maxRecDepth 5000000 in
theorem tendrilref06_Unpin_run (x : Tup [⟨true, (.pair .int (.sl .int))⟩, ⟨false, .int⟩]) : (pxFn Tryz.prog (lkΓ [(6, tendrilref02_Copy_S), (86, tendrilref06_Check_S)]) [] Tryz.f89 (bodyOf Tryz.f89) true [⟨true, (.pair .int (.sl .int))⟩, ⟨false, .int⟩] (encTup [⟨true, (.pair .int (.sl .int))⟩, ⟨false, .int⟩] x)).run (fun _ _ _ => none) = tendrilref06_Unpin x := by kernel_rfl
theorem tendrilref06_Unpin_cuts : ∀ p ∈ cuts Tryz.prog (lkΓ [(6, tendrilref02_Copy_S), (86, tendrilref06_Check_S)]) Tryz.f89.ntmps [] (bodyOf Tryz.f89) (κ0 Tryz.prog Tryz.f89 true [⟨true, (.pair .int (.sl .int))⟩, ⟨false, .int⟩]), CutOk (fun _ _ _ _ => none) p := cutsNil (by kernel_rfl)
set_option maxRecDepth 5000000 in
theorem mem_Store_run (x : Tup [⟨false, (.sl .int)⟩, ⟨false, .int⟩, ⟨false, .int⟩]) : (pxFn Tryz.prog (lkΓ [(77, mem_in_S), (78, slices_Clone_S)]) [] Tryz.f41 (bodyOf Tryz.f41) true [⟨false, (.sl .int)⟩, ⟨false, .int⟩] (encTup [⟨false, (.sl .int)⟩, ⟨false, .int⟩, ⟨false, .int⟩] x)).run (fun _ _ _ => none) = mem_Store x := by kernel_rfl
theorem mem_Store_cuts : ∀ p ∈ cuts Tryz.prog (lkΓ [(77, mem_in_S), (78, slices_Clone_S)]) Tryz.f41.ntmps [] (bodyOf Tryz.f41) (κ0 Tryz.prog Tryz.f41 true [⟨false, (.sl .int)⟩, ⟨false, .int⟩]), CutOk (fun _ _ _ _ => none) p := cutsNil (by kernel_rfl)
set_option maxRecDepth 5000000 in
theorem tendrillaw16_live_run (x : Tup []) : (pxFn Tryz.prog (lkΓ [(7, ask_Do_S), (11, ask_New_S), (12, tendrillaw16_plain_S), (13, ask_Waits_S)]) [] Tryz.f4 (bodyOf Tryz.f4) false [⟨false, .bool⟩] (encTup [] x)).run (fun _ _ _ => none) = tendrillaw16_live x := by kernel_rfl
theorem tendrillaw16_live_cuts : ∀ p ∈ cuts Tryz.prog (lkΓ [(7, ask_Do_S), (11, ask_New_S), (12, tendrillaw16_plain_S), (13, ask_Waits_S)]) Tryz.f4.ntmps [] (bodyOf Tryz.f4) (κ0 Tryz.prog Tryz.f4 false [⟨false, .bool⟩]), CutOk (fun _ _ _ _ => none) p := cutsNil (by kernel_rfl)
set_option maxRecDepth 5000000 in
theorem tendrilref06_Safe_run (x : Tup [⟨true, (.pair .int (.sl .int))⟩]) : (pxFn Tryz.prog (lkΓ [(86, tendrilref06_Check_S)]) [] Tryz.f107 (bodyOf Tryz.f107) false [⟨false, .int⟩] (encTup [⟨true, (.pair .int (.sl .int))⟩] x)).run (fun _ _ _ => none) = tendrilref06_Safe x := by kernel_rfl
theorem tendrilref06_Safe_cuts : ∀ p ∈ cuts Tryz.prog (lkΓ [(86, tendrilref06_Check_S)]) Tryz.f107.ntmps [] (bodyOf Tryz.f107) (κ0 Tryz.prog Tryz.f107 false [⟨false, .int⟩]), CutOk (fun _ _ _ _ => none) p := cutsNil (by kernel_rfl)
set_option maxRecDepth 5000000 in
theorem tendrillaw16_plain_run (x : Tup []) : (pxFn Tryz.prog (lkΓ []) [] Tryz.f12 (bodyOf Tryz.f12) false [⟨true, (.pair .int (.pair .int (.pair .int (.pair .int .int))))⟩] (encTup [] x)).run (fun _ _ _ => none) = tendrillaw16_plain x := by kernel_rfl
theorem tendrillaw16_plain_cuts : ∀ p ∈ cuts Tryz.prog (lkΓ []) Tryz.f12.ntmps [] (bodyOf Tryz.f12) (κ0 Tryz.prog Tryz.f12 false [⟨true, (.pair .int (.pair .int (.pair .int (.pair .int .int))))⟩]), CutOk (fun _ _ _ _ => none) p := cutsNil (by kernel_rfl)
set_option maxRecDepth 5000000 in
theorem tendrilref01_Unpack_run (x : Tup [⟨false, .int⟩]) : (pxFn Tryz.prog (lkΓ []) [] Tryz.f23 (bodyOf Tryz.f23) false [⟨false, .int⟩, ⟨false, .int⟩, ⟨false, .int⟩] (encTup [⟨false, .int⟩] x)).run (fun _ _ _ => none) = tendrilref01_Unpack x := by kernel_rfl
theorem tendrilref01_Unpack_cuts : ∀ p ∈ cuts Tryz.prog (lkΓ []) Tryz.f23.ntmps [] (bodyOf Tryz.f23) (κ0 Tryz.prog Tryz.f23 false [⟨false, .int⟩, ⟨false, .int⟩, ⟨false, .int⟩]), CutOk (fun _ _ _ _ => none) p := cutsNil (by kernel_rfl)
set_option maxRecDepth 5000000 in
theorem tendrilref08_Check_run (x : Tup [⟨false, .int⟩]) : (pxFn Tryz.prog (lkΓ []) [] Tryz.f87 (bodyOf Tryz.f87) false [⟨false, .int⟩] (encTup [⟨false, .int⟩] x)).run (fun _ _ _ => none) = tendrilref08_Check x := by kernel_rfl
theorem tendrilref08_Check_cuts : ∀ p ∈ cuts Tryz.prog (lkΓ []) Tryz.f87.ntmps [] (bodyOf Tryz.f87) (κ0 Tryz.prog Tryz.f87 false [⟨false, .int⟩]), CutOk (fun _ _ _ _ => none) p := cutsNil (by kernel_rfl)
end Go.Proofs.YtcoiboghdmmdcadGreatFn
