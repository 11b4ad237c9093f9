/- What the interpreter of code computes of these functions, part 6; no condition. -/
import Derived.Test.YtcoiboghdmmdcadGreatProg
import Derived.KernelRfl
import Derived.Test.YtcoiboghdmmdcadGreatPx25
import Derived.Test.YtcoiboghdmmdcadGreatFnsD
set_option linter.unusedVariables false
set_option linter.unusedSimpArgs false
namespace Go.Proofs.YtcoiboghdmmdcadGreatFn
open Go Go.RowKit Go.Proofs.YtcoiboghdmmdcadGreatPx
set_option maxHeartbeats 0 in
set_option maxRecDepth 5000000 in
def pool_Check_P14v0 (k : Nat) (vs : List SV) (bs : List Blk) : Option (Option (Int)) := match vs, bs with
  | [.val (.one (.ptr 0 0)), .val (.one (.int .i64 p0)), .val (.one (.row 1)), .val (.one (.sl .int p1)), .val (.one (.int .i64 p2)), .val (.one (.int .i64 p3))], [.box [(.sl .int p4), (.sl .int p5), (.sl .int p6), (.sl .int p7)], .row .bool p8] => some (pool_Check_L14 k p0 p1 p2 p3 p4 p5 p6 p7 p8)
  | _, _ => none
set_option maxHeartbeats 0 in
set_option maxRecDepth 5000000 in
def pool_Check_P28v0 (k : Nat) (vs : List SV) (bs : List Blk) : Option (Option (Int)) := match vs, bs with
  | [.val (.one (.int .i64 p0)), .val (.one (.row 0)), .val (.one (.sl .int p1)), .val (.one (.int .i64 p2)), .val (.one (.int .i64 p3))], [.row .bool p4] => some (pool_Check_L28 k p0 p1 p2 p3 p4)
  | _, _ => none
def pool_Check_P14 (k : Nat) (vs : List SV) (bs : List Blk) : Option (Int) := match pool_Check_P14v0 k vs bs with | some r => r | none => none
def pool_Check_P28 (k : Nat) (vs : List SV) (bs : List Blk) : Option (Int) := match pool_Check_P28v0 k vs bs with | some r => r | none => none
def pool_Check_Λ (k L : Nat) (vs : List SV) (bs : List Blk) : Option (Int) := match Nat.beq L 14 with | true => pool_Check_P14 k vs bs | false => match Nat.beq L 28 with | true => pool_Check_P28 k vs bs | false => none
noncomputable def pool_Check_C : List (Cut (Tup [⟨false, .int⟩])) := cuts Tryz.prog (lkΓ [(95, slices_Contains_S)]) Tryz.f72.ntmps [(28, [3, 4, 83, 84, 85]), (14, [1, 3, 4, 35, 36, 37])] (bodyOf Tryz.f72) (κ0 Tryz.prog Tryz.f72 false [⟨false, .int⟩])
set_option maxRecDepth 5000000 in
theorem pool_Check_c14 (k : Nat) (p0 : Int) (p1 : List Int) (p2 : Int) (p3 : Int) (p4 : List Int) (p5 : List Int) (p6 : List Int) (p7 : List Int) (p8 : List Bool) : ((nthC pool_Check_C 0).g (mkSt [1, 3, 4, 35, 36, 37] [.val (.one (.ptr 0 0)), .val (.one (.int .i64 p0)), .val (.one (.row 1)), .val (.one (.sl .int p1)), .val (.one (.int .i64 p2)), .val (.one (.int .i64 p3))] [.box [(.sl .int p4), (.sl .int p5), (.sl .int p6), (.sl .int p7)], .row .bool p8])).run (pool_Check_Λ k) = pool_Check_L14 (k + 1) p0 p1 p2 p3 p4 p5 p6 p7 p8 := by kernel_rfl
set_option maxHeartbeats 0 in
set_option maxRecDepth 5000000 in
theorem pool_Check_e14 (k : Nat) (vs : List SV) (bs : List Blk) (r : Int) (h : pool_Check_P14v0 (k + 1) vs bs = some (some r)) : ((nthC pool_Check_C 0).g (mkSt [1, 3, 4, 35, 36, 37] vs bs)).run (pool_Check_Λ k) = some r := by
  unfold pool_Check_P14v0 at h
  split at h
  · exact (pool_Check_c14 k _ _ _ _ _ _ _ _ _).trans (Option.some.inj h)
  · cases h
set_option maxRecDepth 5000000 in
theorem pool_Check_c28 (k : Nat) (p0 : Int) (p1 : List Int) (p2 : Int) (p3 : Int) (p4 : List Bool) : ((nthC pool_Check_C 1).g (mkSt [3, 4, 83, 84, 85] [.val (.one (.int .i64 p0)), .val (.one (.row 0)), .val (.one (.sl .int p1)), .val (.one (.int .i64 p2)), .val (.one (.int .i64 p3))] [.row .bool p4])).run (pool_Check_Λ k) = pool_Check_L28 (k + 1) p0 p1 p2 p3 p4 := by kernel_rfl
set_option maxHeartbeats 0 in
set_option maxRecDepth 5000000 in
theorem pool_Check_e28 (k : Nat) (vs : List SV) (bs : List Blk) (r : Int) (h : pool_Check_P28v0 (k + 1) vs bs = some (some r)) : ((nthC pool_Check_C 1).g (mkSt [3, 4, 83, 84, 85] vs bs)).run (pool_Check_Λ k) = some r := by
  unfold pool_Check_P28v0 at h
  split at h
  · exact (pool_Check_c28 k _ _ _ _ _).trans (Option.some.inj h)
  · cases h
theorem pool_Check_d14 : CutOk pool_Check_Λ (nthC pool_Check_C 0) := by
  refine cutOk_of (L := 14) (live := [1, 3, 4, 35, 36, 37]) (by kernel_rfl) (by kernel_rfl) fun k vs bs r h => ?_
  change pool_Check_P14 (k + 1) vs bs = some r at h
  unfold pool_Check_P14 at h
  split at h
  · rename_i q hq
    exact pool_Check_e14 k vs bs r (hq.trans (congrArg some h))
  cases h
theorem pool_Check_d28 : CutOk pool_Check_Λ (nthC pool_Check_C 1) := by
  refine cutOk_of (L := 28) (live := [3, 4, 83, 84, 85]) (by kernel_rfl) (by kernel_rfl) fun k vs bs r h => ?_
  change pool_Check_P28 (k + 1) vs bs = some r at h
  unfold pool_Check_P28 at h
  split at h
  · rename_i q hq
    exact pool_Check_e28 k vs bs r (hq.trans (congrArg some h))
  cases h
theorem pool_Check_cuts : ∀ p ∈ cuts Tryz.prog (lkΓ [(95, slices_Contains_S)]) Tryz.f72.ntmps [(28, [3, 4, 83, 84, 85]), (14, [1, 3, 4, 35, 36, 37])] (bodyOf Tryz.f72) (κ0 Tryz.prog Tryz.f72 false [⟨false, .int⟩]), CutOk pool_Check_Λ p := cutsOk (l := pool_Check_C) (n := 2) (by kernel_rfl) fun
  | 0, _ => pool_Check_d14
  | 1, _ => pool_Check_d28
  | k + 2, h => absurd h (by omega)
set_option maxHeartbeats 0 in
set_option maxRecDepth 5000000 in
theorem pool_Check_z14 (vs : List SV) (bs : List Blk) (q : Option (Int)) (h : pool_Check_P14v0 0 vs bs = some q) : q = none := by
  unfold pool_Check_P14v0 at h; split at h
  · have h := Option.some.inj h; rw [← h]; first | rfl | (unfold pool_Check_L14; rfl)
  · cases h
set_option maxHeartbeats 0 in
set_option maxRecDepth 5000000 in
theorem pool_Check_z28 (vs : List SV) (bs : List Blk) (q : Option (Int)) (h : pool_Check_P28v0 0 vs bs = some q) : q = none := by
  unfold pool_Check_P28v0 at h; split at h
  · have h := Option.some.inj h; rw [← h]; first | rfl | (unfold pool_Check_L28; rfl)
  · cases h
theorem pool_Check_Λ0 (L : Nat) (vs : List SV) (bs : List Blk) : pool_Check_Λ 0 L vs bs = none := by
  unfold pool_Check_Λ
  split
  · unfold pool_Check_P14
    split
    · rename_i q hq; exact pool_Check_z14 _ _ q hq
    rfl
  split
  · unfold pool_Check_P28
    split
    · rename_i q hq; exact pool_Check_z28 _ _ q hq
    rfl
  rfl
set_option maxRecDepth 5000000 in
theorem pool_Check_run (K : Nat) (x : Tup [⟨true, (.pair (.sl .int) (.pair (.sl .int) (.pair (.sl .int) (.sl .int))))⟩]) : (pxFn Tryz.prog (lkΓ [(95, slices_Contains_S)]) [(28, [3, 4, 83, 84, 85]), (14, [1, 3, 4, 35, 36, 37])] Tryz.f72 (bodyOf Tryz.f72) false [⟨false, .int⟩] (encTup [⟨true, (.pair (.sl .int) (.pair (.sl .int) (.pair (.sl .int) (.sl .int))))⟩] x)).run (pool_Check_Λ K) = pool_Check_K K x := by kernel_rfl
set_option maxHeartbeats 0 in
set_option maxRecDepth 5000000 in
def tendrilref07_Check_P6v0 (k : Nat) (vs : List SV) (bs : List Blk) : Option (Option (Int)) := match vs, bs with
  | [.val (.one (.ptr 0 0)), .val (.agg [(.sl .int p0), (.sl .int p1), (.sl .int p2), (.sl .int p3), (.sl .int p4), (.sl .int p5), (.sl .int p6), (.sl .int p7), (.sl .int p8), (.sl .int p9), (.sl .int p10), (.sl .int p11)]), .val (.one (.int .i64 p12))], [.box [(.sl .int p13), (.sl .int p14), (.sl .int p15), (.sl .int p16), (.sl .int p17), (.sl .int p18), (.sl .int p19), (.sl .int p20), (.sl .int p21), (.sl .int p22), (.sl .int p23), (.sl .int p24), (.sl .int p25), (.sl .int p26), (.int .i64 p27), (.sl .int p28)]] => some (tendrilref07_Check_L6 k p0 p1 p2 p3 p4 p5 p6 p7 p8 p9 p10 p11 p12 p13 p14 p15 p16 p17 p18 p19 p20 p21 p22 p23 p24 p25 p26 p27 p28)
  | _, _ => none
def tendrilref07_Check_P6 (k : Nat) (vs : List SV) (bs : List Blk) : Option (Int) := match tendrilref07_Check_P6v0 k vs bs with | some r => r | none => none
def tendrilref07_Check_Λ (k L : Nat) (vs : List SV) (bs : List Blk) : Option (Int) := match Nat.beq L 6 with | true => tendrilref07_Check_P6 k vs bs | false => none
noncomputable def tendrilref07_Check_C : List (Cut (Tup [⟨false, .int⟩])) := cuts Tryz.prog (lkΓ [(85, tendrilref05_Check_S), (86, tendrilref06_Check_S)]) Tryz.f52.ntmps [(6, [1, 6, 7])] (bodyOf Tryz.f52) (κ0 Tryz.prog Tryz.f52 false [⟨false, .int⟩])
set_option maxRecDepth 5000000 in
theorem tendrilref07_Check_c6 (k : Nat) (p0 : List Int) (p1 : List Int) (p2 : List Int) (p3 : List Int) (p4 : List Int) (p5 : List Int) (p6 : List Int) (p7 : List Int) (p8 : List Int) (p9 : List Int) (p10 : List Int) (p11 : List Int) (p12 : Int) (p13 : List Int) (p14 : List Int) (p15 : List Int) (p16 : List Int) (p17 : List Int) (p18 : List Int) (p19 : List Int) (p20 : List Int) (p21 : List Int) (p22 : List Int) (p23 : List Int) (p24 : List Int) (p25 : List Int) (p26 : List Int) (p27 : Int) (p28 : List Int) : ((nthC tendrilref07_Check_C 0).g (mkSt [1, 6, 7] [.val (.one (.ptr 0 0)), .val (.agg [(.sl .int p0), (.sl .int p1), (.sl .int p2), (.sl .int p3), (.sl .int p4), (.sl .int p5), (.sl .int p6), (.sl .int p7), (.sl .int p8), (.sl .int p9), (.sl .int p10), (.sl .int p11)]), .val (.one (.int .i64 p12))] [.box [(.sl .int p13), (.sl .int p14), (.sl .int p15), (.sl .int p16), (.sl .int p17), (.sl .int p18), (.sl .int p19), (.sl .int p20), (.sl .int p21), (.sl .int p22), (.sl .int p23), (.sl .int p24), (.sl .int p25), (.sl .int p26), (.int .i64 p27), (.sl .int p28)]])).run (tendrilref07_Check_Λ k) = tendrilref07_Check_L6 (k + 1) p0 p1 p2 p3 p4 p5 p6 p7 p8 p9 p10 p11 p12 p13 p14 p15 p16 p17 p18 p19 p20 p21 p22 p23 p24 p25 p26 p27 p28 := by kernel_rfl
set_option maxHeartbeats 0 in
set_option maxRecDepth 5000000 in
theorem tendrilref07_Check_e6 (k : Nat) (vs : List SV) (bs : List Blk) (r : Int) (h : tendrilref07_Check_P6v0 (k + 1) vs bs = some (some r)) : ((nthC tendrilref07_Check_C 0).g (mkSt [1, 6, 7] vs bs)).run (tendrilref07_Check_Λ k) = some r := by
  unfold tendrilref07_Check_P6v0 at h
  split at h
  · exact (tendrilref07_Check_c6 k _ _ _ _ _ _ _ _ _ _ _ _ _ _ _ _ _ _ _ _ _ _ _ _ _ _ _ _ _).trans (Option.some.inj h)
  · cases h
theorem tendrilref07_Check_d6 : CutOk tendrilref07_Check_Λ (nthC tendrilref07_Check_C 0) := by
  refine cutOk_of (L := 6) (live := [1, 6, 7]) (by kernel_rfl) (by kernel_rfl) fun k vs bs r h => ?_
  change tendrilref07_Check_P6 (k + 1) vs bs = some r at h
  unfold tendrilref07_Check_P6 at h
  split at h
  · rename_i q hq
    exact tendrilref07_Check_e6 k vs bs r (hq.trans (congrArg some h))
  cases h
theorem tendrilref07_Check_cuts : ∀ p ∈ cuts Tryz.prog (lkΓ [(85, tendrilref05_Check_S), (86, tendrilref06_Check_S)]) Tryz.f52.ntmps [(6, [1, 6, 7])] (bodyOf Tryz.f52) (κ0 Tryz.prog Tryz.f52 false [⟨false, .int⟩]), CutOk tendrilref07_Check_Λ p := cutsOk (l := tendrilref07_Check_C) (n := 1) (by kernel_rfl) fun
  | 0, _ => tendrilref07_Check_d6
  | k + 1, h => absurd h (by omega)
set_option maxHeartbeats 0 in
set_option maxRecDepth 5000000 in
theorem tendrilref07_Check_z6 (vs : List SV) (bs : List Blk) (q : Option (Int)) (h : tendrilref07_Check_P6v0 0 vs bs = some q) : q = none := by
  unfold tendrilref07_Check_P6v0 at h; split at h
  · have h := Option.some.inj h; rw [← h]; first | rfl | (unfold tendrilref07_Check_L6; rfl)
  · cases h
theorem tendrilref07_Check_Λ0 (L : Nat) (vs : List SV) (bs : List Blk) : tendrilref07_Check_Λ 0 L vs bs = none := by
  unfold tendrilref07_Check_Λ
  split
  · unfold tendrilref07_Check_P6
    split
    · rename_i q hq; exact tendrilref07_Check_z6 _ _ q hq
    rfl
  rfl
set_option maxRecDepth 5000000 in
theorem tendrilref07_Check_run (K : Nat) (x : Tup [⟨true, (.pair (.sl .int) (.pair (.sl .int) (.pair (.pair (.pair (.sl .int) (.pair (.sl .int) (.pair (.sl .int) (.sl .int)))) (.pair (.pair (.sl .int) (.pair (.sl .int) (.pair (.sl .int) (.sl .int)))) (.pair (.sl .int) (.pair (.sl .int) (.pair (.sl .int) (.sl .int)))))) (.pair .int (.sl .int)))))⟩]) : (pxFn Tryz.prog (lkΓ [(85, tendrilref05_Check_S), (86, tendrilref06_Check_S)]) [(6, [1, 6, 7])] Tryz.f52 (bodyOf Tryz.f52) false [⟨false, .int⟩] (encTup [⟨true, (.pair (.sl .int) (.pair (.sl .int) (.pair (.pair (.pair (.sl .int) (.pair (.sl .int) (.pair (.sl .int) (.sl .int)))) (.pair (.pair (.sl .int) (.pair (.sl .int) (.pair (.sl .int) (.sl .int)))) (.pair (.sl .int) (.pair (.sl .int) (.pair (.sl .int) (.sl .int)))))) (.pair .int (.sl .int)))))⟩] x)).run (tendrilref07_Check_Λ K) = tendrilref07_Check_K K x := by kernel_rfl
set_option maxHeartbeats 0 in
set_option maxRecDepth 5000000 in
def shape_Check_P10v0 (k : Nat) (vs : List SV) (bs : List Blk) : Option (Option (Int)) := match vs, bs with
  | [.val (.one (.ptr 0 0)), .val (.agg [(.int .i64 p0), (.int .i64 p1), (.int .i64 p2)]), .val (.one (.int .i64 p3))], [.box [(.sl .int p4), (.sl .int p5), (.sl .int p6), (.sl .int p7), (.sl .int p8), (.sl .int p9), (.sl .int p10), (.sl .int p11), (.sl .int p12), (.sl .int p13), (.sl .int p14), (.sl .int p15), (.sl .int p16), (.sl .int p17), (.int .i64 p18), (.sl .int p19)]] => some (shape_Check_L10 k p0 p1 p2 p3 p4 p5 p6 p7 p8 p9 p10 p11 p12 p13 p14 p15 p16 p17 p18 p19)
  | _, _ => none
def shape_Check_P10 (k : Nat) (vs : List SV) (bs : List Blk) : Option (Int) := match shape_Check_P10v0 k vs bs with | some r => r | none => none
def shape_Check_Λ (k L : Nat) (vs : List SV) (bs : List Blk) : Option (Int) := match Nat.beq L 10 with | true => shape_Check_P10 k vs bs | false => none
noncomputable def shape_Check_C : List (Cut (Tup [⟨false, .int⟩])) := cuts Tryz.prog (lkΓ [(32, place_Check_S), (33, arena_Check_S), (34, place_Size_S), (37000035, slices_ContainsFunc_shape_Check_1_S)]) Tryz.f15.ntmps [(10, [3, 38, 39])] (bodyOf Tryz.f15) (κ0 Tryz.prog Tryz.f15 false [⟨false, .int⟩])
set_option maxRecDepth 5000000 in
theorem shape_Check_c10 (k : Nat) (p0 : Int) (p1 : Int) (p2 : Int) (p3 : Int) (p4 : List Int) (p5 : List Int) (p6 : List Int) (p7 : List Int) (p8 : List Int) (p9 : List Int) (p10 : List Int) (p11 : List Int) (p12 : List Int) (p13 : List Int) (p14 : List Int) (p15 : List Int) (p16 : List Int) (p17 : List Int) (p18 : Int) (p19 : List Int) : ((nthC shape_Check_C 0).g (mkSt [3, 38, 39] [.val (.one (.ptr 0 0)), .val (.agg [(.int .i64 p0), (.int .i64 p1), (.int .i64 p2)]), .val (.one (.int .i64 p3))] [.box [(.sl .int p4), (.sl .int p5), (.sl .int p6), (.sl .int p7), (.sl .int p8), (.sl .int p9), (.sl .int p10), (.sl .int p11), (.sl .int p12), (.sl .int p13), (.sl .int p14), (.sl .int p15), (.sl .int p16), (.sl .int p17), (.int .i64 p18), (.sl .int p19)]])).run (shape_Check_Λ k) = shape_Check_L10 (k + 1) p0 p1 p2 p3 p4 p5 p6 p7 p8 p9 p10 p11 p12 p13 p14 p15 p16 p17 p18 p19 := by kernel_rfl
set_option maxHeartbeats 0 in
set_option maxRecDepth 5000000 in
theorem shape_Check_e10 (k : Nat) (vs : List SV) (bs : List Blk) (r : Int) (h : shape_Check_P10v0 (k + 1) vs bs = some (some r)) : ((nthC shape_Check_C 0).g (mkSt [3, 38, 39] vs bs)).run (shape_Check_Λ k) = some r := by
  unfold shape_Check_P10v0 at h
  split at h
  · exact (shape_Check_c10 k _ _ _ _ _ _ _ _ _ _ _ _ _ _ _ _ _ _ _ _).trans (Option.some.inj h)
  · cases h
theorem shape_Check_d10 : CutOk shape_Check_Λ (nthC shape_Check_C 0) := by
  refine cutOk_of (L := 10) (live := [3, 38, 39]) (by kernel_rfl) (by kernel_rfl) fun k vs bs r h => ?_
  change shape_Check_P10 (k + 1) vs bs = some r at h
  unfold shape_Check_P10 at h
  split at h
  · rename_i q hq
    exact shape_Check_e10 k vs bs r (hq.trans (congrArg some h))
  cases h
theorem shape_Check_cuts : ∀ p ∈ cuts Tryz.prog (lkΓ [(32, place_Check_S), (33, arena_Check_S), (34, place_Size_S), (37000035, slices_ContainsFunc_shape_Check_1_S)]) Tryz.f15.ntmps [(10, [3, 38, 39])] (bodyOf Tryz.f15) (κ0 Tryz.prog Tryz.f15 false [⟨false, .int⟩]), CutOk shape_Check_Λ p := cutsOk (l := shape_Check_C) (n := 1) (by kernel_rfl) fun
  | 0, _ => shape_Check_d10
  | k + 1, h => absurd h (by omega)
set_option maxHeartbeats 0 in
set_option maxRecDepth 5000000 in
theorem shape_Check_z10 (vs : List SV) (bs : List Blk) (q : Option (Int)) (h : shape_Check_P10v0 0 vs bs = some q) : q = none := by
  unfold shape_Check_P10v0 at h; split at h
  · have h := Option.some.inj h; rw [← h]; first | rfl | (unfold shape_Check_L10; rfl)
  · cases h
theorem shape_Check_Λ0 (L : Nat) (vs : List SV) (bs : List Blk) : shape_Check_Λ 0 L vs bs = none := by
  unfold shape_Check_Λ
  split
  · unfold shape_Check_P10
    split
    · rename_i q hq; exact shape_Check_z10 _ _ q hq
    rfl
  rfl
set_option maxRecDepth 5000000 in
theorem shape_Check_run (K : Nat) (x : Tup [⟨true, (.pair .int (.pair .int (.pair .int (.pair .int .int))))⟩, ⟨true, (.pair (.sl .int) (.pair (.sl .int) (.pair (.pair (.pair (.sl .int) (.pair (.sl .int) (.pair (.sl .int) (.sl .int)))) (.pair (.pair (.sl .int) (.pair (.sl .int) (.pair (.sl .int) (.sl .int)))) (.pair (.sl .int) (.pair (.sl .int) (.pair (.sl .int) (.sl .int)))))) (.pair .int (.sl .int)))))⟩]) : (pxFn Tryz.prog (lkΓ [(32, place_Check_S), (33, arena_Check_S), (34, place_Size_S), (37000035, slices_ContainsFunc_shape_Check_1_S)]) [(10, [3, 38, 39])] Tryz.f15 (bodyOf Tryz.f15) false [⟨false, .int⟩] (encTup [⟨true, (.pair .int (.pair .int (.pair .int (.pair .int .int))))⟩, ⟨true, (.pair (.sl .int) (.pair (.sl .int) (.pair (.pair (.pair (.sl .int) (.pair (.sl .int) (.pair (.sl .int) (.sl .int)))) (.pair (.pair (.sl .int) (.pair (.sl .int) (.pair (.sl .int) (.sl .int)))) (.pair (.sl .int) (.pair (.sl .int) (.pair (.sl .int) (.sl .int)))))) (.pair .int (.sl .int)))))⟩] x)).run (shape_Check_Λ K) = shape_Check_K K x := by kernel_rfl
set_option maxHeartbeats 0 in
set_option maxRecDepth 5000000 in
def slices_IndexFunc_era_Turn_1_P6v0 (k : Nat) (vs : List SV) (bs : List Blk) : Option (Option (Int)) := match vs, bs with
  | [.val (.one (.sl .int p0)), .val (.one (.clo 113 (.ref (.pair .int (.sl .int))) p1)), .val (.one (.int .i64 p2)), .val (.one (.int .i64 p3))], [] => some (slices_IndexFunc_era_Turn_1_L6 k p0 p1 p2 p3)
  | _, _ => none
def slices_IndexFunc_era_Turn_1_P6 (k : Nat) (vs : List SV) (bs : List Blk) : Option (Int) := match slices_IndexFunc_era_Turn_1_P6v0 k vs bs with | some r => r | none => none
def slices_IndexFunc_era_Turn_1_Λ (k L : Nat) (vs : List SV) (bs : List Blk) : Option (Int) := match Nat.beq L 6 with | true => slices_IndexFunc_era_Turn_1_P6 k vs bs | false => none
noncomputable def slices_IndexFunc_era_Turn_1_C : List (Cut (Tup [⟨false, .int⟩])) := cuts Tryz.prog (lkΓ [(113, era_Turn_1_S)]) Tryz.f75.ntmps [(6, [0, 1, 7, 8])] (bodyOf Tryz.f75) (κ0 Tryz.prog Tryz.f75 false [⟨false, .int⟩])
set_option maxRecDepth 5000000 in
theorem slices_IndexFunc_era_Turn_1_c6 (k : Nat) (p0 : List Int) (p1 : Int × List Int) (p2 : Int) (p3 : Int) : ((nthC slices_IndexFunc_era_Turn_1_C 0).g (mkSt [0, 1, 7, 8] [.val (.one (.sl .int p0)), .val (.one (.clo 113 (.ref (.pair .int (.sl .int))) p1)), .val (.one (.int .i64 p2)), .val (.one (.int .i64 p3))] [])).run (slices_IndexFunc_era_Turn_1_Λ k) = slices_IndexFunc_era_Turn_1_L6 (k + 1) p0 p1 p2 p3 := by kernel_rfl
set_option maxHeartbeats 0 in
set_option maxRecDepth 5000000 in
theorem slices_IndexFunc_era_Turn_1_e6 (k : Nat) (vs : List SV) (bs : List Blk) (r : Int) (h : slices_IndexFunc_era_Turn_1_P6v0 (k + 1) vs bs = some (some r)) : ((nthC slices_IndexFunc_era_Turn_1_C 0).g (mkSt [0, 1, 7, 8] vs bs)).run (slices_IndexFunc_era_Turn_1_Λ k) = some r := by
  unfold slices_IndexFunc_era_Turn_1_P6v0 at h
  split at h
  · exact (slices_IndexFunc_era_Turn_1_c6 k _ _ _ _).trans (Option.some.inj h)
  · cases h
theorem slices_IndexFunc_era_Turn_1_d6 : CutOk slices_IndexFunc_era_Turn_1_Λ (nthC slices_IndexFunc_era_Turn_1_C 0) := by
  refine cutOk_of (L := 6) (live := [0, 1, 7, 8]) (by kernel_rfl) (by kernel_rfl) fun k vs bs r h => ?_
  change slices_IndexFunc_era_Turn_1_P6 (k + 1) vs bs = some r at h
  unfold slices_IndexFunc_era_Turn_1_P6 at h
  split at h
  · rename_i q hq
    exact slices_IndexFunc_era_Turn_1_e6 k vs bs r (hq.trans (congrArg some h))
  cases h
theorem slices_IndexFunc_era_Turn_1_cuts : ∀ p ∈ cuts Tryz.prog (lkΓ [(113, era_Turn_1_S)]) Tryz.f75.ntmps [(6, [0, 1, 7, 8])] (bodyOf Tryz.f75) (κ0 Tryz.prog Tryz.f75 false [⟨false, .int⟩]), CutOk slices_IndexFunc_era_Turn_1_Λ p := cutsOk (l := slices_IndexFunc_era_Turn_1_C) (n := 1) (by kernel_rfl) fun
  | 0, _ => slices_IndexFunc_era_Turn_1_d6
  | k + 1, h => absurd h (by omega)
set_option maxHeartbeats 0 in
set_option maxRecDepth 5000000 in
theorem slices_IndexFunc_era_Turn_1_z6 (vs : List SV) (bs : List Blk) (q : Option (Int)) (h : slices_IndexFunc_era_Turn_1_P6v0 0 vs bs = some q) : q = none := by
  unfold slices_IndexFunc_era_Turn_1_P6v0 at h; split at h
  · have h := Option.some.inj h; rw [← h]; first | rfl | (unfold slices_IndexFunc_era_Turn_1_L6; rfl)
  · cases h
theorem slices_IndexFunc_era_Turn_1_Λ0 (L : Nat) (vs : List SV) (bs : List Blk) : slices_IndexFunc_era_Turn_1_Λ 0 L vs bs = none := by
  unfold slices_IndexFunc_era_Turn_1_Λ
  split
  · unfold slices_IndexFunc_era_Turn_1_P6
    split
    · rename_i q hq; exact slices_IndexFunc_era_Turn_1_z6 _ _ q hq
    rfl
  rfl
set_option maxRecDepth 5000000 in
theorem slices_IndexFunc_era_Turn_1_run (K : Nat) (x : Tup [⟨false, (.sl .int)⟩, ⟨false, (.clo 113 (.ref (.pair .int (.sl .int))))⟩]) : (pxFn Tryz.prog (lkΓ [(113, era_Turn_1_S)]) [(6, [0, 1, 7, 8])] Tryz.f75 (bodyOf Tryz.f75) false [⟨false, .int⟩] (encTup [⟨false, (.sl .int)⟩, ⟨false, (.clo 113 (.ref (.pair .int (.sl .int))))⟩] x)).run (slices_IndexFunc_era_Turn_1_Λ K) = slices_IndexFunc_era_Turn_1_K K x := by kernel_rfl
set_option maxHeartbeats 0 in
set_option maxRecDepth 5000000 in
def tendrilref02_Same_P10v0 (k : Nat) (vs : List SV) (bs : List Blk) : Option (Option (Bool)) := match vs, bs with
  | [.val (.one (.sl .int p0)), .val (.one (.sl .int p1)), .val (.one (.int .i64 p2)), .val (.one (.int .i64 p3))], [] => some (tendrilref02_Same_L10 k p0 p1 p2 p3)
  | _, _ => none
def tendrilref02_Same_P10 (k : Nat) (vs : List SV) (bs : List Blk) : Option (Bool) := match tendrilref02_Same_P10v0 k vs bs with | some r => r | none => none
def tendrilref02_Same_Λ (k L : Nat) (vs : List SV) (bs : List Blk) : Option (Bool) := match Nat.beq L 10 with | true => tendrilref02_Same_P10 k vs bs | false => none
noncomputable def tendrilref02_Same_C : List (Cut (Tup [⟨false, .bool⟩])) := cuts Tryz.prog (lkΓ []) Tryz.f27.ntmps [(10, [0, 1, 12, 13])] (bodyOf Tryz.f27) (κ0 Tryz.prog Tryz.f27 false [⟨false, .bool⟩])
set_option maxRecDepth 5000000 in
theorem tendrilref02_Same_c10 (k : Nat) (p0 : List Int) (p1 : List Int) (p2 : Int) (p3 : Int) : ((nthC tendrilref02_Same_C 0).g (mkSt [0, 1, 12, 13] [.val (.one (.sl .int p0)), .val (.one (.sl .int p1)), .val (.one (.int .i64 p2)), .val (.one (.int .i64 p3))] [])).run (tendrilref02_Same_Λ k) = tendrilref02_Same_L10 (k + 1) p0 p1 p2 p3 := by kernel_rfl
set_option maxHeartbeats 0 in
set_option maxRecDepth 5000000 in
theorem tendrilref02_Same_e10 (k : Nat) (vs : List SV) (bs : List Blk) (r : Bool) (h : tendrilref02_Same_P10v0 (k + 1) vs bs = some (some r)) : ((nthC tendrilref02_Same_C 0).g (mkSt [0, 1, 12, 13] vs bs)).run (tendrilref02_Same_Λ k) = some r := by
  unfold tendrilref02_Same_P10v0 at h
  split at h
  · exact (tendrilref02_Same_c10 k _ _ _ _).trans (Option.some.inj h)
  · cases h
theorem tendrilref02_Same_d10 : CutOk tendrilref02_Same_Λ (nthC tendrilref02_Same_C 0) := by
  refine cutOk_of (L := 10) (live := [0, 1, 12, 13]) (by kernel_rfl) (by kernel_rfl) fun k vs bs r h => ?_
  change tendrilref02_Same_P10 (k + 1) vs bs = some r at h
  unfold tendrilref02_Same_P10 at h
  split at h
  · rename_i q hq
    exact tendrilref02_Same_e10 k vs bs r (hq.trans (congrArg some h))
  cases h
theorem tendrilref02_Same_cuts : ∀ p ∈ cuts Tryz.prog (lkΓ []) Tryz.f27.ntmps [(10, [0, 1, 12, 13])] (bodyOf Tryz.f27) (κ0 Tryz.prog Tryz.f27 false [⟨false, .bool⟩]), CutOk tendrilref02_Same_Λ p := cutsOk (l := tendrilref02_Same_C) (n := 1) (by kernel_rfl) fun
  | 0, _ => tendrilref02_Same_d10
  | k + 1, h => absurd h (by omega)
set_option maxHeartbeats 0 in
set_option maxRecDepth 5000000 in
theorem tendrilref02_Same_z10 (vs : List SV) (bs : List Blk) (q : Option (Bool)) (h : tendrilref02_Same_P10v0 0 vs bs = some q) : q = none := by
  unfold tendrilref02_Same_P10v0 at h; split at h
  · have h := Option.some.inj h; rw [← h]; first | rfl | (unfold tendrilref02_Same_L10; rfl)
  · cases h
theorem tendrilref02_Same_Λ0 (L : Nat) (vs : List SV) (bs : List Blk) : tendrilref02_Same_Λ 0 L vs bs = none := by
  unfold tendrilref02_Same_Λ
  split
  · unfold tendrilref02_Same_P10
    split
    · rename_i q hq; exact tendrilref02_Same_z10 _ _ q hq
    rfl
  rfl
set_option maxRecDepth 5000000 in
theorem tendrilref02_Same_run (K : Nat) (x : Tup [⟨false, (.sl .int)⟩, ⟨false, (.sl .int)⟩]) : (pxFn Tryz.prog (lkΓ []) [(10, [0, 1, 12, 13])] Tryz.f27 (bodyOf Tryz.f27) false [⟨false, .bool⟩] (encTup [⟨false, (.sl .int)⟩, ⟨false, (.sl .int)⟩] x)).run (tendrilref02_Same_Λ K) = tendrilref02_Same_K K x := by kernel_rfl
set_option maxRecDepth 5000000 in
theorem tendrilref16_Do_run (x : Tup [⟨true, (.pair .int (.pair .int (.pair .int (.pair .int .int))))⟩, ⟨true, (.pair (.sl .int) (.pair (.sl .int) (.pair (.pair (.pair (.sl .int) (.pair (.sl .int) (.pair (.sl .int) (.sl .int)))) (.pair (.pair (.sl .int) (.pair (.sl .int) (.pair (.sl .int) (.sl .int)))) (.pair (.sl .int) (.pair (.sl .int) (.pair (.sl .int) (.sl .int)))))) (.pair .int (.sl .int)))))⟩, ⟨false, .int⟩, ⟨true, (.pair .int (.pair .int (.pair .int (.pair .int (.pair .int .int)))))⟩]) : (pxFn Tryz.prog (lkΓ [(20, tendrilref15_Check_S), (21, tendrilref16_Waits_S), (22, tendrilref16_do_S), (23, tendrilref01_Unpack_S), (24, tendrilref07_Gen_S)]) [] Tryz.f8 (bodyOf Tryz.f8) false [⟨true, (.pair (.sl .int) (.pair (.sl .int) (.pair (.pair (.pair (.sl .int) (.pair (.sl .int) (.pair (.sl .int) (.sl .int)))) (.pair (.pair (.sl .int) (.pair (.sl .int) (.pair (.sl .int) (.sl .int)))) (.pair (.sl .int) (.pair (.sl .int) (.pair (.sl .int) (.sl .int)))))) (.pair .int (.sl .int)))))⟩, ⟨false, .int⟩, ⟨false, (.sl (.pair .int (.pair .int (.pair .int (.pair .int (.pair .int (.pair .int (.pair .int .bool))))))))⟩, ⟨false, .int⟩] (encTup [⟨true, (.pair .int (.pair .int (.pair .int (.pair .int .int))))⟩, ⟨true, (.pair (.sl .int) (.pair (.sl .int) (.pair (.pair (.pair (.sl .int) (.pair (.sl .int) (.pair (.sl .int) (.sl .int)))) (.pair (.pair (.sl .int) (.pair (.sl .int) (.pair (.sl .int) (.sl .int)))) (.pair (.sl .int) (.pair (.sl .int) (.pair (.sl .int) (.sl .int)))))) (.pair .int (.sl .int)))))⟩, ⟨false, .int⟩, ⟨true, (.pair .int (.pair .int (.pair .int (.pair .int (.pair .int .int)))))⟩] x)).run (fun _ _ _ => none) = tendrilref16_Do x := by kernel_rfl
theorem tendrilref16_Do_cuts : ∀ p ∈ cuts Tryz.prog (lkΓ [(20, tendrilref15_Check_S), (21, tendrilref16_Waits_S), (22, tendrilref16_do_S), (23, tendrilref01_Unpack_S), (24, tendrilref07_Gen_S)]) Tryz.f8.ntmps [] (bodyOf Tryz.f8) (κ0 Tryz.prog Tryz.f8 false [⟨true, (.pair (.sl .int) (.pair (.sl .int) (.pair (.pair (.pair (.sl .int) (.pair (.sl .int) (.pair (.sl .int) (.sl .int)))) (.pair (.pair (.sl .int) (.pair (.sl .int) (.pair (.sl .int) (.sl .int)))) (.pair (.sl .int) (.pair (.sl .int) (.pair (.sl .int) (.sl .int)))))) (.pair .int (.sl .int)))))⟩, ⟨false, .int⟩, ⟨false, (.sl (.pair .int (.pair .int (.pair .int (.pair .int (.pair .int (.pair .int (.pair .int .bool))))))))⟩, ⟨false, .int⟩]), CutOk (fun _ _ _ _ => none) p := cutsNil (by kernel_rfl)
set_option maxRecDepth 5000000 in
theorem tendrilref07_End_run (x : Tup [⟨true, (.pair (.sl .int) (.pair (.sl .int) (.pair (.pair (.pair (.sl .int) (.pair (.sl .int) (.pair (.sl .int) (.sl .int)))) (.pair (.pair (.sl .int) (.pair (.sl .int) (.pair (.sl .int) (.sl .int)))) (.pair (.sl .int) (.pair (.sl .int) (.pair (.sl .int) (.sl .int)))))) (.pair .int (.sl .int)))))⟩, ⟨false, .int⟩]) : (pxFn Tryz.prog (lkΓ [(52, tendrilref07_Check_S), (89, tendrilref06_Unpin_S), (90, tendrilref07_Turn_S)]) [] Tryz.f58 (bodyOf Tryz.f58) false [⟨true, (.pair (.sl .int) (.pair (.sl .int) (.pair (.pair (.pair (.sl .int) (.pair (.sl .int) (.pair (.sl .int) (.sl .int)))) (.pair (.pair (.sl .int) (.pair (.sl .int) (.pair (.sl .int) (.sl .int)))) (.pair (.sl .int) (.pair (.sl .int) (.pair (.sl .int) (.sl .int)))))) (.pair .int (.sl .int)))))⟩, ⟨false, .int⟩] (encTup [⟨true, (.pair (.sl .int) (.pair (.sl .int) (.pair (.pair (.pair (.sl .int) (.pair (.sl .int) (.pair (.sl .int) (.sl .int)))) (.pair (.pair (.sl .int) (.pair (.sl .int) (.pair (.sl .int) (.sl .int)))) (.pair (.sl .int) (.pair (.sl .int) (.pair (.sl .int) (.sl .int)))))) (.pair .int (.sl .int)))))⟩, ⟨false, .int⟩] x)).run (fun _ _ _ => none) = tendrilref07_End x := by kernel_rfl
theorem tendrilref07_End_cuts : ∀ p ∈ cuts Tryz.prog (lkΓ [(52, tendrilref07_Check_S), (89, tendrilref06_Unpin_S), (90, tendrilref07_Turn_S)]) Tryz.f58.ntmps [] (bodyOf Tryz.f58) (κ0 Tryz.prog Tryz.f58 false [⟨true, (.pair (.sl .int) (.pair (.sl .int) (.pair (.pair (.pair (.sl .int) (.pair (.sl .int) (.pair (.sl .int) (.sl .int)))) (.pair (.pair (.sl .int) (.pair (.sl .int) (.pair (.sl .int) (.sl .int)))) (.pair (.sl .int) (.pair (.sl .int) (.pair (.sl .int) (.sl .int)))))) (.pair .int (.sl .int)))))⟩, ⟨false, .int⟩]), CutOk (fun _ _ _ _ => none) p := cutsNil (by kernel_rfl)
set_option maxRecDepth 5000000 in
theorem ask_touch_run (x : Tup [⟨true, (.pair (.sl .int) (.pair (.sl .int) (.pair (.pair (.pair (.sl .int) (.pair (.sl .int) (.pair (.sl .int) (.sl .int)))) (.pair (.pair (.sl .int) (.pair (.sl .int) (.pair (.sl .int) (.sl .int)))) (.pair (.sl .int) (.pair (.sl .int) (.pair (.sl .int) (.sl .int)))))) (.pair .int (.sl .int)))))⟩, ⟨false, .int⟩, ⟨true, (.pair .int (.pair .int (.pair .int (.pair .int (.pair .int .int)))))⟩]) : (pxFn Tryz.prog (lkΓ [(42, tag_Unpack_S), (43, arena_Gen_S)]) [] Tryz.f17 (bodyOf Tryz.f17) true [⟨false, (.sl (.pair .int (.pair .int (.pair .int (.pair .int (.pair .int (.pair .int (.pair .int .bool))))))))⟩] (encTup [⟨true, (.pair (.sl .int) (.pair (.sl .int) (.pair (.pair (.pair (.sl .int) (.pair (.sl .int) (.pair (.sl .int) (.sl .int)))) (.pair (.pair (.sl .int) (.pair (.sl .int) (.pair (.sl .int) (.sl .int)))) (.pair (.sl .int) (.pair (.sl .int) (.pair (.sl .int) (.sl .int)))))) (.pair .int (.sl .int)))))⟩, ⟨false, .int⟩, ⟨true, (.pair .int (.pair .int (.pair .int (.pair .int (.pair .int .int)))))⟩] x)).run (fun _ _ _ => none) = ask_touch x := by kernel_rfl
theorem ask_touch_cuts : ∀ p ∈ cuts Tryz.prog (lkΓ [(42, tag_Unpack_S), (43, arena_Gen_S)]) Tryz.f17.ntmps [] (bodyOf Tryz.f17) (κ0 Tryz.prog Tryz.f17 true [⟨false, (.sl (.pair .int (.pair .int (.pair .int (.pair .int (.pair .int (.pair .int (.pair .int .bool))))))))⟩]), CutOk (fun _ _ _ _ => none) p := cutsNil (by kernel_rfl)
set_option maxRecDepth 5000000 in
theorem tendrilref16_word_run (x : Tup [⟨true, (.pair (.sl .int) (.pair (.sl .int) (.pair (.pair (.pair (.sl .int) (.pair (.sl .int) (.pair (.sl .int) (.sl .int)))) (.pair (.pair (.sl .int) (.pair (.sl .int) (.pair (.sl .int) (.sl .int)))) (.pair (.sl .int) (.pair (.sl .int) (.pair (.sl .int) (.sl .int)))))) (.pair .int (.sl .int)))))⟩, ⟨true, (.pair .int (.pair .int (.pair .int (.pair .int (.pair .int .int)))))⟩]) : (pxFn Tryz.prog (lkΓ []) [] Tryz.f56 (bodyOf Tryz.f56) false [⟨false, .int⟩, ⟨false, .bool⟩] (encTup [⟨true, (.pair (.sl .int) (.pair (.sl .int) (.pair (.pair (.pair (.sl .int) (.pair (.sl .int) (.pair (.sl .int) (.sl .int)))) (.pair (.pair (.sl .int) (.pair (.sl .int) (.pair (.sl .int) (.sl .int)))) (.pair (.sl .int) (.pair (.sl .int) (.pair (.sl .int) (.sl .int)))))) (.pair .int (.sl .int)))))⟩, ⟨true, (.pair .int (.pair .int (.pair .int (.pair .int (.pair .int .int)))))⟩] x)).run (fun _ _ _ => none) = tendrilref16_word x := by kernel_rfl
theorem tendrilref16_word_cuts : ∀ p ∈ cuts Tryz.prog (lkΓ []) Tryz.f56.ntmps [] (bodyOf Tryz.f56) (κ0 Tryz.prog Tryz.f56 false [⟨false, .int⟩, ⟨false, .bool⟩]), CutOk (fun _ _ _ _ => none) p := cutsNil (by kernel_rfl)
set_option maxRecDepth 5000000 in
theorem place_kinds_run (x : Tup [⟨true, (.pair .int (.pair .int (.pair .int (.pair .int .int))))⟩]) : (pxFn Tryz.prog (lkΓ []) [] Tryz.f74 (bodyOf Tryz.f74) false [⟨true, (.pair (.pair .int (.pair .int .int)) (.pair (.pair .int (.pair .int .int)) (.pair (.pair .int (.pair .int .int)) (.pair (.pair .int (.pair .int .int)) (.pair .int (.pair .int .int))))))⟩] (encTup [⟨true, (.pair .int (.pair .int (.pair .int (.pair .int .int))))⟩] x)).run (fun _ _ _ => none) = place_kinds x := by kernel_rfl
theorem place_kinds_cuts : ∀ p ∈ cuts Tryz.prog (lkΓ []) Tryz.f74.ntmps [] (bodyOf Tryz.f74) (κ0 Tryz.prog Tryz.f74 false [⟨true, (.pair (.pair .int (.pair .int .int)) (.pair (.pair .int (.pair .int .int)) (.pair (.pair .int (.pair .int .int)) (.pair (.pair .int (.pair .int .int)) (.pair .int (.pair .int .int))))))⟩]), CutOk (fun _ _ _ _ => none) p := cutsNil (by kernel_rfl)
set_option maxRecDepth 5000000 in
theorem tendrilref05_Copy_run (x : Tup [⟨true, (.pair (.sl .int) (.pair (.sl .int) (.pair (.sl .int) (.sl .int))))⟩]) : (pxFn Tryz.prog (lkΓ [(6, tendrilref02_Copy_S)]) [] Tryz.f109 (bodyOf Tryz.f109) true [⟨true, (.pair (.sl .int) (.pair (.sl .int) (.pair (.sl .int) (.sl .int))))⟩] (encTup [⟨true, (.pair (.sl .int) (.pair (.sl .int) (.pair (.sl .int) (.sl .int))))⟩] x)).run (fun _ _ _ => none) = tendrilref05_Copy x := by kernel_rfl
theorem tendrilref05_Copy_cuts : ∀ p ∈ cuts Tryz.prog (lkΓ [(6, tendrilref02_Copy_S)]) Tryz.f109.ntmps [] (bodyOf Tryz.f109) (κ0 Tryz.prog Tryz.f109 true [⟨true, (.pair (.sl .int) (.pair (.sl .int) (.pair (.sl .int) (.sl .int))))⟩]), CutOk (fun _ _ _ _ => none) p := cutsNil (by kernel_rfl)
set_option maxRecDepth 5000000 in
theorem slices_ContainsFunc_era_Turn_1_run (x : Tup [⟨false, (.sl .int)⟩, ⟨false, (.clo 113 (.ref (.pair .int (.sl .int))))⟩]) : (pxFn Tryz.prog (lkΓ [(114000075, slices_IndexFunc_era_Turn_1_S)]) [] Tryz.f35 (bodyOf Tryz.f35) false [⟨false, .bool⟩] (encTup [⟨false, (.sl .int)⟩, ⟨false, (.clo 113 (.ref (.pair .int (.sl .int))))⟩] x)).run (fun _ _ _ => none) = slices_ContainsFunc_era_Turn_1 x := by kernel_rfl
theorem slices_ContainsFunc_era_Turn_1_cuts : ∀ p ∈ cuts Tryz.prog (lkΓ [(114000075, slices_IndexFunc_era_Turn_1_S)]) Tryz.f35.ntmps [] (bodyOf Tryz.f35) (κ0 Tryz.prog Tryz.f35 false [⟨false, .bool⟩]), CutOk (fun _ _ _ _ => none) p := cutsNil (by kernel_rfl)
set_option maxRecDepth 5000000 in
theorem era_Pin_run (x : Tup [⟨true, (.pair .int (.sl .int))⟩, ⟨false, .int⟩]) : (pxFn Tryz.prog (lkΓ [(98, era_pinned_S), (99, era_with_S)]) [] Tryz.f80 (bodyOf Tryz.f80) true [⟨true, (.pair .int (.sl .int))⟩, ⟨false, .int⟩] (encTup [⟨true, (.pair .int (.sl .int))⟩, ⟨false, .int⟩] x)).run (fun _ _ _ => none) = era_Pin x := by kernel_rfl
theorem era_Pin_cuts : ∀ p ∈ cuts Tryz.prog (lkΓ [(98, era_pinned_S), (99, era_with_S)]) Tryz.f80.ntmps [] (bodyOf Tryz.f80) (κ0 Tryz.prog Tryz.f80 true [⟨true, (.pair .int (.sl .int))⟩, ⟨false, .int⟩]), CutOk (fun _ _ _ _ => none) p := cutsNil (by kernel_rfl)
set_option maxRecDepth 5000000 in
theorem tendrilref05_Few_run (x : Tup [⟨true, (.pair (.sl .int) (.pair (.sl .int) (.pair (.sl .int) (.sl .int))))⟩]) : (pxFn Tryz.prog (lkΓ []) [] Tryz.f14 (bodyOf Tryz.f14) false [⟨false, .bool⟩] (encTup [⟨true, (.pair (.sl .int) (.pair (.sl .int) (.pair (.sl .int) (.sl .int))))⟩] x)).run (fun _ _ _ => none) = tendrilref05_Few x := by kernel_rfl
theorem tendrilref05_Few_cuts : ∀ p ∈ cuts Tryz.prog (lkΓ []) Tryz.f14.ntmps [] (bodyOf Tryz.f14) (κ0 Tryz.prog Tryz.f14 false [⟨false, .bool⟩]), CutOk (fun _ _ _ _ => none) p := cutsNil (by kernel_rfl)
set_option maxRecDepth 5000000 in
theorem latch_Free_run (x : Tup [⟨false, .int⟩]) : (pxFn Tryz.prog (lkΓ [(31, latch_Held_S), (37, latch_Check_S)]) [] Tryz.f46 (bodyOf Tryz.f46) false [⟨false, .int⟩, ⟨false, .int⟩] (encTup [⟨false, .int⟩] x)).run (fun _ _ _ => none) = latch_Free x := by kernel_rfl
theorem latch_Free_cuts : ∀ p ∈ cuts Tryz.prog (lkΓ [(31, latch_Held_S), (37, latch_Check_S)]) Tryz.f46.ntmps [] (bodyOf Tryz.f46) (κ0 Tryz.prog Tryz.f46 false [⟨false, .int⟩, ⟨false, .int⟩]), CutOk (fun _ _ _ _ => none) p := cutsNil (by kernel_rfl)
set_option maxRecDepth 5000000 in
theorem tendrilref08_Try_run (x : Tup [⟨false, .int⟩]) : (pxFn Tryz.prog (lkΓ [(87, tendrilref08_Check_S)]) [] Tryz.f63 (bodyOf Tryz.f63) false [⟨false, .int⟩, ⟨false, .bool⟩] (encTup [⟨false, .int⟩] x)).run (fun _ _ _ => none) = tendrilref08_Try x := by kernel_rfl
theorem tendrilref08_Try_cuts : ∀ p ∈ cuts Tryz.prog (lkΓ [(87, tendrilref08_Check_S)]) Tryz.f63.ntmps [] (bodyOf Tryz.f63) (κ0 Tryz.prog Tryz.f63 false [⟨false, .int⟩, ⟨false, .bool⟩]), CutOk (fun _ _ _ _ => none) p := cutsNil (by kernel_rfl)
set_option maxRecDepth 5000000 in
theorem tendrilref01_Pack_run (x : Tup [⟨false, .int⟩, ⟨false, .int⟩]) : (pxFn Tryz.prog (lkΓ []) [] Tryz.f110 (bodyOf Tryz.f110) false [⟨false, .int⟩, ⟨false, .int⟩] (encTup [⟨false, .int⟩, ⟨false, .int⟩] x)).run (fun _ _ _ => none) = tendrilref01_Pack x := by kernel_rfl
theorem tendrilref01_Pack_cuts : ∀ p ∈ cuts Tryz.prog (lkΓ []) Tryz.f110.ntmps [] (bodyOf Tryz.f110) (κ0 Tryz.prog Tryz.f110 false [⟨false, .int⟩, ⟨false, .int⟩]), CutOk (fun _ _ _ _ => none) p := cutsNil (by kernel_rfl)
set_option maxRecDepth 5000000 in
theorem mem_New_run (x : Tup [⟨false, .int⟩]) : (pxFn Tryz.prog (lkΓ []) [] Tryz.f71 (bodyOf Tryz.f71) true [⟨false, (.sl .int)⟩, ⟨false, .int⟩] (encTup [⟨false, .int⟩] x)).run (fun _ _ _ => none) = mem_New x := by kernel_rfl
theorem mem_New_cuts : ∀ p ∈ cuts Tryz.prog (lkΓ []) Tryz.f71.ntmps [] (bodyOf Tryz.f71) (κ0 Tryz.prog Tryz.f71 true [⟨false, (.sl .int)⟩, ⟨false, .int⟩]), CutOk (fun _ _ _ _ => none) p := cutsNil (by kernel_rfl)
end Go.Proofs.YtcoiboghdmmdcadGreatFn
