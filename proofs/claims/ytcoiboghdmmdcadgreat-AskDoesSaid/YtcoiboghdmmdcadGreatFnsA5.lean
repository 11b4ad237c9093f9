/- What the interpreter of code computes of these functions, part 5; no condition. -/
import Derived.Test.YtcoiboghdmmdcadGreatProg
import Derived.KernelRfl
import Derived.Test.YtcoiboghdmmdcadGreatPx25
import Derived.Test.YtcoiboghdmmdcadGreatFnsD
set_option linter.unusedVariables false
set_option linter.unusedSimpArgs false
namespace Go.Proofs.YtcoiboghdmmdcadGreatFn
open Go Go.RowKit Go.Proofs.YtcoiboghdmmdcadGreatPx
set_option maxHeartbeats 0 in
set_option maxRecDepth 5000000 in
def tendrilref07_Same_P6v0 (k : Nat) (vs : List SV) (bs : List Blk) : Option (Option (Bool)) := match vs, bs with
  | [.val (.one (.ptr 0 0)), .val (.one (.ptr 1 0)), .val (.one (.int .i64 p0))], [.box [(.sl .int p1), (.sl .int p2), (.sl .int p3), (.sl .int p4), (.sl .int p5), (.sl .int p6), (.sl .int p7), (.sl .int p8), (.sl .int p9), (.sl .int p10), (.sl .int p11), (.sl .int p12), (.sl .int p13), (.sl .int p14), (.int .i64 p15), (.sl .int p16)], .box [(.sl .int p17), (.sl .int p18), (.sl .int p19), (.sl .int p20), (.sl .int p21), (.sl .int p22), (.sl .int p23), (.sl .int p24), (.sl .int p25), (.sl .int p26), (.sl .int p27), (.sl .int p28), (.sl .int p29), (.sl .int p30), (.int .i64 p31), (.sl .int p32)]] => some (tendrilref07_Same_L6 k p0 p1 p2 p3 p4 p5 p6 p7 p8 p9 p10 p11 p12 p13 p14 p15 p16 p17 p18 p19 p20 p21 p22 p23 p24 p25 p26 p27 p28 p29 p30 p31 p32)
  | _, _ => none
def tendrilref07_Same_P6 (k : Nat) (vs : List SV) (bs : List Blk) : Option (Bool) := match tendrilref07_Same_P6v0 k vs bs with | some r => r | none => none
def tendrilref07_Same_Λ (k L : Nat) (vs : List SV) (bs : List Blk) : Option (Bool) := match Nat.beq L 6 with | true => tendrilref07_Same_P6 k vs bs | false => none
noncomputable def tendrilref07_Same_C : List (Cut (Tup [⟨false, .bool⟩])) := cuts Tryz.prog (lkΓ [(25, tendrilref05_Same_S), (26, tendrilref06_Same_S), (27, tendrilref02_Same_S)]) Tryz.f9.ntmps [(6, [2, 3, 6])] (bodyOf Tryz.f9) (κ0 Tryz.prog Tryz.f9 false [⟨false, .bool⟩])
set_option maxRecDepth 5000000 in
theorem tendrilref07_Same_c6 (k : Nat) (p0 : Int) (p1 : List Int) (p2 : List Int) (p3 : List Int) (p4 : List Int) (p5 : List Int) (p6 : List Int) (p7 : List Int) (p8 : List Int) (p9 : List Int) (p10 : List Int) (p11 : List Int) (p12 : List Int) (p13 : List Int) (p14 : List Int) (p15 : Int) (p16 : List Int) (p17 : List Int) (p18 : List Int) (p19 : List Int) (p20 : List Int) (p21 : List Int) (p22 : List Int) (p23 : List Int) (p24 : List Int) (p25 : List Int) (p26 : List Int) (p27 : List Int) (p28 : List Int) (p29 : List Int) (p30 : List Int) (p31 : Int) (p32 : List Int) : ((nthC tendrilref07_Same_C 0).g (mkSt [2, 3, 6] [.val (.one (.ptr 0 0)), .val (.one (.ptr 1 0)), .val (.one (.int .i64 p0))] [.box [(.sl .int p1), (.sl .int p2), (.sl .int p3), (.sl .int p4), (.sl .int p5), (.sl .int p6), (.sl .int p7), (.sl .int p8), (.sl .int p9), (.sl .int p10), (.sl .int p11), (.sl .int p12), (.sl .int p13), (.sl .int p14), (.int .i64 p15), (.sl .int p16)], .box [(.sl .int p17), (.sl .int p18), (.sl .int p19), (.sl .int p20), (.sl .int p21), (.sl .int p22), (.sl .int p23), (.sl .int p24), (.sl .int p25), (.sl .int p26), (.sl .int p27), (.sl .int p28), (.sl .int p29), (.sl .int p30), (.int .i64 p31), (.sl .int p32)]])).run (tendrilref07_Same_Λ k) = tendrilref07_Same_L6 (k + 1) p0 p1 p2 p3 p4 p5 p6 p7 p8 p9 p10 p11 p12 p13 p14 p15 p16 p17 p18 p19 p20 p21 p22 p23 p24 p25 p26 p27 p28 p29 p30 p31 p32 := by kernel_rfl
set_option maxHeartbeats 0 in
set_option maxRecDepth 5000000 in
theorem tendrilref07_Same_e6 (k : Nat) (vs : List SV) (bs : List Blk) (r : Bool) (h : tendrilref07_Same_P6v0 (k + 1) vs bs = some (some r)) : ((nthC tendrilref07_Same_C 0).g (mkSt [2, 3, 6] vs bs)).run (tendrilref07_Same_Λ k) = some r := by
  unfold tendrilref07_Same_P6v0 at h
  split at h
  · exact (tendrilref07_Same_c6 k _ _ _ _ _ _ _ _ _ _ _ _ _ _ _ _ _ _ _ _ _ _ _ _ _ _ _ _ _ _ _ _ _).trans (Option.some.inj h)
  · cases h
theorem tendrilref07_Same_d6 : CutOk tendrilref07_Same_Λ (nthC tendrilref07_Same_C 0) := by
  refine cutOk_of (L := 6) (live := [2, 3, 6]) (by kernel_rfl) (by kernel_rfl) fun k vs bs r h => ?_
  change tendrilref07_Same_P6 (k + 1) vs bs = some r at h
  unfold tendrilref07_Same_P6 at h
  split at h
  · rename_i q hq
    exact tendrilref07_Same_e6 k vs bs r (hq.trans (congrArg some h))
  cases h
theorem tendrilref07_Same_cuts : ∀ p ∈ cuts Tryz.prog (lkΓ [(25, tendrilref05_Same_S), (26, tendrilref06_Same_S), (27, tendrilref02_Same_S)]) Tryz.f9.ntmps [(6, [2, 3, 6])] (bodyOf Tryz.f9) (κ0 Tryz.prog Tryz.f9 false [⟨false, .bool⟩]), CutOk tendrilref07_Same_Λ p := cutsOk (l := tendrilref07_Same_C) (n := 1) (by kernel_rfl) fun
  | 0, _ => tendrilref07_Same_d6
  | k + 1, h => absurd h (by omega)
set_option maxHeartbeats 0 in
set_option maxRecDepth 5000000 in
theorem tendrilref07_Same_z6 (vs : List SV) (bs : List Blk) (q : Option (Bool)) (h : tendrilref07_Same_P6v0 0 vs bs = some q) : q = none := by
  unfold tendrilref07_Same_P6v0 at h; split at h
  · have h := Option.some.inj h; rw [← h]; first | rfl | (unfold tendrilref07_Same_L6; rfl)
  · cases h
theorem tendrilref07_Same_Λ0 (L : Nat) (vs : List SV) (bs : List Blk) : tendrilref07_Same_Λ 0 L vs bs = none := by
  unfold tendrilref07_Same_Λ
  split
  · unfold tendrilref07_Same_P6
    split
    · rename_i q hq; exact tendrilref07_Same_z6 _ _ q hq
    rfl
  rfl
set_option maxRecDepth 5000000 in
theorem tendrilref07_Same_run (K : Nat) (x : Tup [⟨true, (.pair (.sl .int) (.pair (.sl .int) (.pair (.pair (.pair (.sl .int) (.pair (.sl .int) (.pair (.sl .int) (.sl .int)))) (.pair (.pair (.sl .int) (.pair (.sl .int) (.pair (.sl .int) (.sl .int)))) (.pair (.sl .int) (.pair (.sl .int) (.pair (.sl .int) (.sl .int)))))) (.pair .int (.sl .int)))))⟩, ⟨true, (.pair (.sl .int) (.pair (.sl .int) (.pair (.pair (.pair (.sl .int) (.pair (.sl .int) (.pair (.sl .int) (.sl .int)))) (.pair (.pair (.sl .int) (.pair (.sl .int) (.pair (.sl .int) (.sl .int)))) (.pair (.sl .int) (.pair (.sl .int) (.pair (.sl .int) (.sl .int)))))) (.pair .int (.sl .int)))))⟩]) : (pxFn Tryz.prog (lkΓ [(25, tendrilref05_Same_S), (26, tendrilref06_Same_S), (27, tendrilref02_Same_S)]) [(6, [2, 3, 6])] Tryz.f9 (bodyOf Tryz.f9) false [⟨false, .bool⟩] (encTup [⟨true, (.pair (.sl .int) (.pair (.sl .int) (.pair (.pair (.pair (.sl .int) (.pair (.sl .int) (.pair (.sl .int) (.sl .int)))) (.pair (.pair (.sl .int) (.pair (.sl .int) (.pair (.sl .int) (.sl .int)))) (.pair (.sl .int) (.pair (.sl .int) (.pair (.sl .int) (.sl .int)))))) (.pair .int (.sl .int)))))⟩, ⟨true, (.pair (.sl .int) (.pair (.sl .int) (.pair (.pair (.pair (.sl .int) (.pair (.sl .int) (.pair (.sl .int) (.sl .int)))) (.pair (.pair (.sl .int) (.pair (.sl .int) (.pair (.sl .int) (.sl .int)))) (.pair (.sl .int) (.pair (.sl .int) (.pair (.sl .int) (.sl .int)))))) (.pair .int (.sl .int)))))⟩] x)).run (tendrilref07_Same_Λ K) = tendrilref07_Same_K K x := by kernel_rfl
set_option maxHeartbeats 0 in
set_option maxRecDepth 5000000 in
def tendrilref07_Few_P6v0 (k : Nat) (vs : List SV) (bs : List Blk) : Option (Option (Bool)) := match vs, bs with
  | [.val (.one (.ptr 0 0)), .val (.agg [(.sl .int p0), (.sl .int p1), (.sl .int p2), (.sl .int p3), (.sl .int p4), (.sl .int p5), (.sl .int p6), (.sl .int p7), (.sl .int p8), (.sl .int p9), (.sl .int p10), (.sl .int p11)]), .val (.one (.int .i64 p12))], [.box [(.sl .int p13), (.sl .int p14), (.sl .int p15), (.sl .int p16), (.sl .int p17), (.sl .int p18), (.sl .int p19), (.sl .int p20), (.sl .int p21), (.sl .int p22), (.sl .int p23), (.sl .int p24), (.sl .int p25), (.sl .int p26), (.int .i64 p27), (.sl .int p28)]] => some (tendrilref07_Few_L6 k p0 p1 p2 p3 p4 p5 p6 p7 p8 p9 p10 p11 p12 p13 p14 p15 p16 p17 p18 p19 p20 p21 p22 p23 p24 p25 p26 p27 p28)
  | _, _ => none
def tendrilref07_Few_P6 (k : Nat) (vs : List SV) (bs : List Blk) : Option (Bool) := match tendrilref07_Few_P6v0 k vs bs with | some r => r | none => none
def tendrilref07_Few_Λ (k L : Nat) (vs : List SV) (bs : List Blk) : Option (Bool) := match Nat.beq L 6 with | true => tendrilref07_Few_P6 k vs bs | false => none
noncomputable def tendrilref07_Few_C : List (Cut (Tup [⟨false, .bool⟩])) := cuts Tryz.prog (lkΓ [(14, tendrilref05_Few_S)]) Tryz.f5.ntmps [(6, [1, 6, 7])] (bodyOf Tryz.f5) (κ0 Tryz.prog Tryz.f5 false [⟨false, .bool⟩])
set_option maxRecDepth 5000000 in
theorem tendrilref07_Few_c6 (k : Nat) (p0 : List Int) (p1 : List Int) (p2 : List Int) (p3 : List Int) (p4 : List Int) (p5 : List Int) (p6 : List Int) (p7 : List Int) (p8 : List Int) (p9 : List Int) (p10 : List Int) (p11 : List Int) (p12 : Int) (p13 : List Int) (p14 : List Int) (p15 : List Int) (p16 : List Int) (p17 : List Int) (p18 : List Int) (p19 : List Int) (p20 : List Int) (p21 : List Int) (p22 : List Int) (p23 : List Int) (p24 : List Int) (p25 : List Int) (p26 : List Int) (p27 : Int) (p28 : List Int) : ((nthC tendrilref07_Few_C 0).g (mkSt [1, 6, 7] [.val (.one (.ptr 0 0)), .val (.agg [(.sl .int p0), (.sl .int p1), (.sl .int p2), (.sl .int p3), (.sl .int p4), (.sl .int p5), (.sl .int p6), (.sl .int p7), (.sl .int p8), (.sl .int p9), (.sl .int p10), (.sl .int p11)]), .val (.one (.int .i64 p12))] [.box [(.sl .int p13), (.sl .int p14), (.sl .int p15), (.sl .int p16), (.sl .int p17), (.sl .int p18), (.sl .int p19), (.sl .int p20), (.sl .int p21), (.sl .int p22), (.sl .int p23), (.sl .int p24), (.sl .int p25), (.sl .int p26), (.int .i64 p27), (.sl .int p28)]])).run (tendrilref07_Few_Λ k) = tendrilref07_Few_L6 (k + 1) p0 p1 p2 p3 p4 p5 p6 p7 p8 p9 p10 p11 p12 p13 p14 p15 p16 p17 p18 p19 p20 p21 p22 p23 p24 p25 p26 p27 p28 := by kernel_rfl
set_option maxHeartbeats 0 in
set_option maxRecDepth 5000000 in
theorem tendrilref07_Few_e6 (k : Nat) (vs : List SV) (bs : List Blk) (r : Bool) (h : tendrilref07_Few_P6v0 (k + 1) vs bs = some (some r)) : ((nthC tendrilref07_Few_C 0).g (mkSt [1, 6, 7] vs bs)).run (tendrilref07_Few_Λ k) = some r := by
  unfold tendrilref07_Few_P6v0 at h
  split at h
  · exact (tendrilref07_Few_c6 k _ _ _ _ _ _ _ _ _ _ _ _ _ _ _ _ _ _ _ _ _ _ _ _ _ _ _ _ _).trans (Option.some.inj h)
  · cases h
theorem tendrilref07_Few_d6 : CutOk tendrilref07_Few_Λ (nthC tendrilref07_Few_C 0) := by
  refine cutOk_of (L := 6) (live := [1, 6, 7]) (by kernel_rfl) (by kernel_rfl) fun k vs bs r h => ?_
  change tendrilref07_Few_P6 (k + 1) vs bs = some r at h
  unfold tendrilref07_Few_P6 at h
  split at h
  · rename_i q hq
    exact tendrilref07_Few_e6 k vs bs r (hq.trans (congrArg some h))
  cases h
theorem tendrilref07_Few_cuts : ∀ p ∈ cuts Tryz.prog (lkΓ [(14, tendrilref05_Few_S)]) Tryz.f5.ntmps [(6, [1, 6, 7])] (bodyOf Tryz.f5) (κ0 Tryz.prog Tryz.f5 false [⟨false, .bool⟩]), CutOk tendrilref07_Few_Λ p := cutsOk (l := tendrilref07_Few_C) (n := 1) (by kernel_rfl) fun
  | 0, _ => tendrilref07_Few_d6
  | k + 1, h => absurd h (by omega)
set_option maxHeartbeats 0 in
set_option maxRecDepth 5000000 in
theorem tendrilref07_Few_z6 (vs : List SV) (bs : List Blk) (q : Option (Bool)) (h : tendrilref07_Few_P6v0 0 vs bs = some q) : q = none := by
  unfold tendrilref07_Few_P6v0 at h; split at h
  · have h := Option.some.inj h; rw [← h]; first | rfl | (unfold tendrilref07_Few_L6; rfl)
  · cases h
theorem tendrilref07_Few_Λ0 (L : Nat) (vs : List SV) (bs : List Blk) : tendrilref07_Few_Λ 0 L vs bs = none := by
  unfold tendrilref07_Few_Λ
  split
  · unfold tendrilref07_Few_P6
    split
    · rename_i q hq; exact tendrilref07_Few_z6 _ _ q hq
    rfl
  rfl
set_option maxRecDepth 5000000 in
theorem tendrilref07_Few_run (K : Nat) (x : Tup [⟨true, (.pair (.sl .int) (.pair (.sl .int) (.pair (.pair (.pair (.sl .int) (.pair (.sl .int) (.pair (.sl .int) (.sl .int)))) (.pair (.pair (.sl .int) (.pair (.sl .int) (.pair (.sl .int) (.sl .int)))) (.pair (.sl .int) (.pair (.sl .int) (.pair (.sl .int) (.sl .int)))))) (.pair .int (.sl .int)))))⟩]) : (pxFn Tryz.prog (lkΓ [(14, tendrilref05_Few_S)]) [(6, [1, 6, 7])] Tryz.f5 (bodyOf Tryz.f5) false [⟨false, .bool⟩] (encTup [⟨true, (.pair (.sl .int) (.pair (.sl .int) (.pair (.pair (.pair (.sl .int) (.pair (.sl .int) (.pair (.sl .int) (.sl .int)))) (.pair (.pair (.sl .int) (.pair (.sl .int) (.pair (.sl .int) (.sl .int)))) (.pair (.sl .int) (.pair (.sl .int) (.pair (.sl .int) (.sl .int)))))) (.pair .int (.sl .int)))))⟩] x)).run (tendrilref07_Few_Λ K) = tendrilref07_Few_K K x := by kernel_rfl
set_option maxHeartbeats 0 in
set_option maxRecDepth 5000000 in
def pool_Reclaim_P14v0 (k : Nat) (vs : List SV) (bs : List Blk) : Option (Option ((List Int × List Int × List Int × List Int) × Int)) := match vs, bs with
  | [.val (.one (.int .i64 p0)), .val (.one (.ptr 0 0)), .val (.one (.ptr 1 0)), .val (.one (.int .i64 p1)), .val (.one (.row 2)), .val (.one (.int .i64 p2)), .val (.one (.int .i64 p3))], [.box [(.row 3), (.row 2), (.row 4), (.row 5)], .box [.nil, .nil, .nil, .nil], .row .int p4, .row .int p5, .row .int p6, .row .int p7] => some (pool_Reclaim_L14 k p0 p1 p2 p3 p4 p5 p6 p7)
  | _, _ => none
def pool_Reclaim_P14 (k : Nat) (vs : List SV) (bs : List Blk) : Option ((List Int × List Int × List Int × List Int) × Int) := match pool_Reclaim_P14v0 k vs bs with | some r => r | none => none
def pool_Reclaim_Λ (k L : Nat) (vs : List SV) (bs : List Blk) : Option ((List Int × List Int × List Int × List Int) × Int) := match Nat.beq L 14 with | true => pool_Reclaim_P14 k vs bs | false => none
noncomputable def pool_Reclaim_C : List (Cut (Tup [⟨true, (.pair (.sl .int) (.pair (.sl .int) (.pair (.sl .int) (.sl .int))))⟩, ⟨false, .int⟩])) := cuts Tryz.prog (lkΓ [(72, pool_Check_S), (103, pool_own_S)]) Tryz.f101.ntmps [(14, [1, 2, 4, 6, 19, 20, 21])] (bodyOf Tryz.f101) (κ0 Tryz.prog Tryz.f101 true [⟨true, (.pair (.sl .int) (.pair (.sl .int) (.pair (.sl .int) (.sl .int))))⟩, ⟨false, .int⟩])
set_option maxRecDepth 5000000 in
theorem pool_Reclaim_c14 (k : Nat) (p0 : Int) (p1 : Int) (p2 : Int) (p3 : Int) (p4 : List Int) (p5 : List Int) (p6 : List Int) (p7 : List Int) : ((nthC pool_Reclaim_C 0).g (mkSt [1, 2, 4, 6, 19, 20, 21] [.val (.one (.int .i64 p0)), .val (.one (.ptr 0 0)), .val (.one (.ptr 1 0)), .val (.one (.int .i64 p1)), .val (.one (.row 2)), .val (.one (.int .i64 p2)), .val (.one (.int .i64 p3))] [.box [(.row 3), (.row 2), (.row 4), (.row 5)], .box [.nil, .nil, .nil, .nil], .row .int p4, .row .int p5, .row .int p6, .row .int p7])).run (pool_Reclaim_Λ k) = pool_Reclaim_L14 (k + 1) p0 p1 p2 p3 p4 p5 p6 p7 := by kernel_rfl
set_option maxHeartbeats 0 in
set_option maxRecDepth 5000000 in
theorem pool_Reclaim_e14 (k : Nat) (vs : List SV) (bs : List Blk) (r : ((List Int) × ((List Int) × ((List Int) × (List Int)))) × Int) (h : pool_Reclaim_P14v0 (k + 1) vs bs = some (some r)) : ((nthC pool_Reclaim_C 0).g (mkSt [1, 2, 4, 6, 19, 20, 21] vs bs)).run (pool_Reclaim_Λ k) = some r := by
  unfold pool_Reclaim_P14v0 at h
  split at h
  · exact (pool_Reclaim_c14 k _ _ _ _ _ _ _ _).trans (Option.some.inj h)
  · cases h
theorem pool_Reclaim_d14 : CutOk pool_Reclaim_Λ (nthC pool_Reclaim_C 0) := by
  refine cutOk_of (L := 14) (live := [1, 2, 4, 6, 19, 20, 21]) (by kernel_rfl) (by kernel_rfl) fun k vs bs r h => ?_
  change pool_Reclaim_P14 (k + 1) vs bs = some r at h
  unfold pool_Reclaim_P14 at h
  split at h
  · rename_i q hq
    exact pool_Reclaim_e14 k vs bs r (hq.trans (congrArg some h))
  cases h
theorem pool_Reclaim_cuts : ∀ p ∈ cuts Tryz.prog (lkΓ [(72, pool_Check_S), (103, pool_own_S)]) Tryz.f101.ntmps [(14, [1, 2, 4, 6, 19, 20, 21])] (bodyOf Tryz.f101) (κ0 Tryz.prog Tryz.f101 true [⟨true, (.pair (.sl .int) (.pair (.sl .int) (.pair (.sl .int) (.sl .int))))⟩, ⟨false, .int⟩]), CutOk pool_Reclaim_Λ p := cutsOk (l := pool_Reclaim_C) (n := 1) (by kernel_rfl) fun
  | 0, _ => pool_Reclaim_d14
  | k + 1, h => absurd h (by omega)
set_option maxHeartbeats 0 in
set_option maxRecDepth 5000000 in
theorem pool_Reclaim_z14 (vs : List SV) (bs : List Blk) (q : Option (((List Int) × ((List Int) × ((List Int) × (List Int)))) × Int)) (h : pool_Reclaim_P14v0 0 vs bs = some q) : q = none := by
  unfold pool_Reclaim_P14v0 at h; split at h
  · have h := Option.some.inj h; rw [← h]; first | rfl | (unfold pool_Reclaim_L14; rfl)
  · cases h
theorem pool_Reclaim_Λ0 (L : Nat) (vs : List SV) (bs : List Blk) : pool_Reclaim_Λ 0 L vs bs = none := by
  unfold pool_Reclaim_Λ
  split
  · unfold pool_Reclaim_P14
    split
    · rename_i q hq; exact pool_Reclaim_z14 _ _ q hq
    rfl
  rfl
set_option maxRecDepth 5000000 in
theorem pool_Reclaim_run (K : Nat) (x : Tup [⟨true, (.pair (.sl .int) (.pair (.sl .int) (.pair (.sl .int) (.sl .int))))⟩, ⟨false, .int⟩]) : (pxFn Tryz.prog (lkΓ [(72, pool_Check_S), (103, pool_own_S)]) [(14, [1, 2, 4, 6, 19, 20, 21])] Tryz.f101 (bodyOf Tryz.f101) true [⟨true, (.pair (.sl .int) (.pair (.sl .int) (.pair (.sl .int) (.sl .int))))⟩, ⟨false, .int⟩] (encTup [⟨true, (.pair (.sl .int) (.pair (.sl .int) (.pair (.sl .int) (.sl .int))))⟩, ⟨false, .int⟩] x)).run (pool_Reclaim_Λ K) = pool_Reclaim_K K x := by kernel_rfl
set_option maxHeartbeats 0 in
set_option maxRecDepth 5000000 in
def tendrilref06_Turn_P12v0 (k : Nat) (vs : List SV) (bs : List Blk) : Option (Option ((Int × List Int) × Bool)) := match vs, bs with
  | [.val (.one (.ptr 0 0)), .val (.one (.ptr 1 0)), .val (.one (.ptr 2 0)), .val (.one (.sl .int p0)), .val (.one (.int .i64 p1)), .val (.one (.int .i64 p2))], [.box [(.int .i64 p3), (.sl .int p4)], .box [(.int .i64 p5), .nil], .box [(.int .i64 p6), (.row 3)], .row .int p7] => some (tendrilref06_Turn_L12 k p0 p1 p2 p3 p4 p5 p6 p7)
  | _, _ => none
def tendrilref06_Turn_P12 (k : Nat) (vs : List SV) (bs : List Blk) : Option ((Int × List Int) × Bool) := match tendrilref06_Turn_P12v0 k vs bs with | some r => r | none => none
def tendrilref06_Turn_Λ (k L : Nat) (vs : List SV) (bs : List Blk) : Option ((Int × List Int) × Bool) := match Nat.beq L 12 with | true => tendrilref06_Turn_P12 k vs bs | false => none
noncomputable def tendrilref06_Turn_C : List (Cut (Tup [⟨true, (.pair .int (.sl .int))⟩, ⟨false, .bool⟩])) := cuts Tryz.prog (lkΓ [(6, tendrilref02_Copy_S), (86, tendrilref06_Check_S)]) Tryz.f105.ntmps [(12, [1, 2, 4, 18, 19, 20])] (bodyOf Tryz.f105) (κ0 Tryz.prog Tryz.f105 true [⟨true, (.pair .int (.sl .int))⟩, ⟨false, .bool⟩])
set_option maxRecDepth 5000000 in
theorem tendrilref06_Turn_c12 (k : Nat) (p0 : List Int) (p1 : Int) (p2 : Int) (p3 : Int) (p4 : List Int) (p5 : Int) (p6 : Int) (p7 : List Int) : ((nthC tendrilref06_Turn_C 0).g (mkSt [1, 2, 4, 18, 19, 20] [.val (.one (.ptr 0 0)), .val (.one (.ptr 1 0)), .val (.one (.ptr 2 0)), .val (.one (.sl .int p0)), .val (.one (.int .i64 p1)), .val (.one (.int .i64 p2))] [.box [(.int .i64 p3), (.sl .int p4)], .box [(.int .i64 p5), .nil], .box [(.int .i64 p6), (.row 3)], .row .int p7])).run (tendrilref06_Turn_Λ k) = tendrilref06_Turn_L12 (k + 1) p0 p1 p2 p3 p4 p5 p6 p7 := by kernel_rfl
set_option maxHeartbeats 0 in
set_option maxRecDepth 5000000 in
theorem tendrilref06_Turn_e12 (k : Nat) (vs : List SV) (bs : List Blk) (r : (Int × (List Int)) × Bool) (h : tendrilref06_Turn_P12v0 (k + 1) vs bs = some (some r)) : ((nthC tendrilref06_Turn_C 0).g (mkSt [1, 2, 4, 18, 19, 20] vs bs)).run (tendrilref06_Turn_Λ k) = some r := by
  unfold tendrilref06_Turn_P12v0 at h
  split at h
  · exact (tendrilref06_Turn_c12 k _ _ _ _ _ _ _ _).trans (Option.some.inj h)
  · cases h
theorem tendrilref06_Turn_d12 : CutOk tendrilref06_Turn_Λ (nthC tendrilref06_Turn_C 0) := by
  refine cutOk_of (L := 12) (live := [1, 2, 4, 18, 19, 20]) (by kernel_rfl) (by kernel_rfl) fun k vs bs r h => ?_
  change tendrilref06_Turn_P12 (k + 1) vs bs = some r at h
  unfold tendrilref06_Turn_P12 at h
  split at h
  · rename_i q hq
    exact tendrilref06_Turn_e12 k vs bs r (hq.trans (congrArg some h))
  cases h
theorem tendrilref06_Turn_cuts : ∀ p ∈ cuts Tryz.prog (lkΓ [(6, tendrilref02_Copy_S), (86, tendrilref06_Check_S)]) Tryz.f105.ntmps [(12, [1, 2, 4, 18, 19, 20])] (bodyOf Tryz.f105) (κ0 Tryz.prog Tryz.f105 true [⟨true, (.pair .int (.sl .int))⟩, ⟨false, .bool⟩]), CutOk tendrilref06_Turn_Λ p := cutsOk (l := tendrilref06_Turn_C) (n := 1) (by kernel_rfl) fun
  | 0, _ => tendrilref06_Turn_d12
  | k + 1, h => absurd h (by omega)
set_option maxHeartbeats 0 in
set_option maxRecDepth 5000000 in
theorem tendrilref06_Turn_z12 (vs : List SV) (bs : List Blk) (q : Option ((Int × (List Int)) × Bool)) (h : tendrilref06_Turn_P12v0 0 vs bs = some q) : q = none := by
  unfold tendrilref06_Turn_P12v0 at h; split at h
  · have h := Option.some.inj h; rw [← h]; first | rfl | (unfold tendrilref06_Turn_L12; rfl)
  · cases h
theorem tendrilref06_Turn_Λ0 (L : Nat) (vs : List SV) (bs : List Blk) : tendrilref06_Turn_Λ 0 L vs bs = none := by
  unfold tendrilref06_Turn_Λ
  split
  · unfold tendrilref06_Turn_P12
    split
    · rename_i q hq; exact tendrilref06_Turn_z12 _ _ q hq
    rfl
  rfl
set_option maxRecDepth 5000000 in
theorem tendrilref06_Turn_run (K : Nat) (x : Tup [⟨true, (.pair .int (.sl .int))⟩]) : (pxFn Tryz.prog (lkΓ [(6, tendrilref02_Copy_S), (86, tendrilref06_Check_S)]) [(12, [1, 2, 4, 18, 19, 20])] Tryz.f105 (bodyOf Tryz.f105) true [⟨true, (.pair .int (.sl .int))⟩, ⟨false, .bool⟩] (encTup [⟨true, (.pair .int (.sl .int))⟩] x)).run (tendrilref06_Turn_Λ K) = tendrilref06_Turn_K K x := by kernel_rfl
set_option maxHeartbeats 0 in
set_option maxRecDepth 5000000 in
def tendrilref03_Check_P6v0 (k : Nat) (vs : List SV) (bs : List Blk) : Option (Option (Int)) := match vs, bs with
  | [.val (.one (.row 0)), .val (.one (.int .i64 p0)), .val (.one (.int .i64 p1))], [.row .int p2] => some (tendrilref03_Check_L6 k p0 p1 p2)
  | _, _ => none
def tendrilref03_Check_P6 (k : Nat) (vs : List SV) (bs : List Blk) : Option (Int) := match tendrilref03_Check_P6v0 k vs bs with | some r => r | none => none
def tendrilref03_Check_Λ (k L : Nat) (vs : List SV) (bs : List Blk) : Option (Int) := match Nat.beq L 6 with | true => tendrilref03_Check_P6 k vs bs | false => none
noncomputable def tendrilref03_Check_C : List (Cut (Tup [⟨false, .int⟩])) := cuts Tryz.prog (lkΓ []) Tryz.f51.ntmps [(6, [15, 16, 17])] (bodyOf Tryz.f51) (κ0 Tryz.prog Tryz.f51 false [⟨false, .int⟩])
set_option maxRecDepth 5000000 in
theorem tendrilref03_Check_c6 (k : Nat) (p0 : Int) (p1 : Int) (p2 : List Int) : ((nthC tendrilref03_Check_C 0).g (mkSt [15, 16, 17] [.val (.one (.row 0)), .val (.one (.int .i64 p0)), .val (.one (.int .i64 p1))] [.row .int p2])).run (tendrilref03_Check_Λ k) = tendrilref03_Check_L6 (k + 1) p0 p1 p2 := by kernel_rfl
set_option maxHeartbeats 0 in
set_option maxRecDepth 5000000 in
theorem tendrilref03_Check_e6 (k : Nat) (vs : List SV) (bs : List Blk) (r : Int) (h : tendrilref03_Check_P6v0 (k + 1) vs bs = some (some r)) : ((nthC tendrilref03_Check_C 0).g (mkSt [15, 16, 17] vs bs)).run (tendrilref03_Check_Λ k) = some r := by
  unfold tendrilref03_Check_P6v0 at h
  split at h
  · exact (tendrilref03_Check_c6 k _ _ _).trans (Option.some.inj h)
  · cases h
theorem tendrilref03_Check_d6 : CutOk tendrilref03_Check_Λ (nthC tendrilref03_Check_C 0) := by
  refine cutOk_of (L := 6) (live := [15, 16, 17]) (by kernel_rfl) (by kernel_rfl) fun k vs bs r h => ?_
  change tendrilref03_Check_P6 (k + 1) vs bs = some r at h
  unfold tendrilref03_Check_P6 at h
  split at h
  · rename_i q hq
    exact tendrilref03_Check_e6 k vs bs r (hq.trans (congrArg some h))
  cases h
theorem tendrilref03_Check_cuts : ∀ p ∈ cuts Tryz.prog (lkΓ []) Tryz.f51.ntmps [(6, [15, 16, 17])] (bodyOf Tryz.f51) (κ0 Tryz.prog Tryz.f51 false [⟨false, .int⟩]), CutOk tendrilref03_Check_Λ p := cutsOk (l := tendrilref03_Check_C) (n := 1) (by kernel_rfl) fun
  | 0, _ => tendrilref03_Check_d6
  | k + 1, h => absurd h (by omega)
set_option maxHeartbeats 0 in
set_option maxRecDepth 5000000 in
theorem tendrilref03_Check_z6 (vs : List SV) (bs : List Blk) (q : Option (Int)) (h : tendrilref03_Check_P6v0 0 vs bs = some q) : q = none := by
  unfold tendrilref03_Check_P6v0 at h; split at h
  · have h := Option.some.inj h; rw [← h]; first | rfl | (unfold tendrilref03_Check_L6; rfl)
  · cases h
theorem tendrilref03_Check_Λ0 (L : Nat) (vs : List SV) (bs : List Blk) : tendrilref03_Check_Λ 0 L vs bs = none := by
  unfold tendrilref03_Check_Λ
  split
  · unfold tendrilref03_Check_P6
    split
    · rename_i q hq; exact tendrilref03_Check_z6 _ _ q hq
    rfl
  rfl
set_option maxRecDepth 5000000 in
theorem tendrilref03_Check_run (K : Nat) (x : Tup [⟨true, (.pair .int (.pair .int (.pair .int (.pair .int .int))))⟩]) : (pxFn Tryz.prog (lkΓ []) [(6, [15, 16, 17])] Tryz.f51 (bodyOf Tryz.f51) false [⟨false, .int⟩] (encTup [⟨true, (.pair .int (.pair .int (.pair .int (.pair .int .int))))⟩] x)).run (tendrilref03_Check_Λ K) = tendrilref03_Check_K K x := by kernel_rfl
set_option maxRecDepth 5000000 in
theorem tendrilref16_do_run (x : Tup [⟨true, (.pair .int (.pair .int (.pair .int (.pair .int .int))))⟩, ⟨true, (.pair (.sl .int) (.pair (.sl .int) (.pair (.pair (.pair (.sl .int) (.pair (.sl .int) (.pair (.sl .int) (.sl .int)))) (.pair (.pair (.sl .int) (.pair (.sl .int) (.pair (.sl .int) (.sl .int)))) (.pair (.sl .int) (.pair (.sl .int) (.pair (.sl .int) (.sl .int)))))) (.pair .int (.sl .int)))))⟩, ⟨false, .int⟩, ⟨true, (.pair .int (.pair .int (.pair .int (.pair .int (.pair .int .int)))))⟩]) : (pxFn Tryz.prog (lkΓ [(56, tendrilref16_word_S), (57, tendrilref07_Pin_S), (58, tendrilref07_End_S), (59, tendrilref02_Load_S), (60, tendrilref14_Field_S), (61, tendrilref02_Store_S), (62, tendrilref14_Put_S), (63, tendrilref08_Try_S), (64, tendrilref16_set_S), (65, tendrilref08_Free_S), (66, tendrilref07_Take_S), (67, tendrilref07_Retire_S)]) [] Tryz.f22 (bodyOf Tryz.f22) false [⟨true, (.pair (.sl .int) (.pair (.sl .int) (.pair (.pair (.pair (.sl .int) (.pair (.sl .int) (.pair (.sl .int) (.sl .int)))) (.pair (.pair (.sl .int) (.pair (.sl .int) (.pair (.sl .int) (.sl .int)))) (.pair (.sl .int) (.pair (.sl .int) (.pair (.sl .int) (.sl .int)))))) (.pair .int (.sl .int)))))⟩, ⟨false, .int⟩, ⟨false, .int⟩] (encTup [⟨true, (.pair .int (.pair .int (.pair .int (.pair .int .int))))⟩, ⟨true, (.pair (.sl .int) (.pair (.sl .int) (.pair (.pair (.pair (.sl .int) (.pair (.sl .int) (.pair (.sl .int) (.sl .int)))) (.pair (.pair (.sl .int) (.pair (.sl .int) (.pair (.sl .int) (.sl .int)))) (.pair (.sl .int) (.pair (.sl .int) (.pair (.sl .int) (.sl .int)))))) (.pair .int (.sl .int)))))⟩, ⟨false, .int⟩, ⟨true, (.pair .int (.pair .int (.pair .int (.pair .int (.pair .int .int)))))⟩] x)).run (fun _ _ _ => none) = tendrilref16_do x := by kernel_rfl
theorem tendrilref16_do_cuts : ∀ p ∈ cuts Tryz.prog (lkΓ [(56, tendrilref16_word_S), (57, tendrilref07_Pin_S), (58, tendrilref07_End_S), (59, tendrilref02_Load_S), (60, tendrilref14_Field_S), (61, tendrilref02_Store_S), (62, tendrilref14_Put_S), (63, tendrilref08_Try_S), (64, tendrilref16_set_S), (65, tendrilref08_Free_S), (66, tendrilref07_Take_S), (67, tendrilref07_Retire_S)]) Tryz.f22.ntmps [] (bodyOf Tryz.f22) (κ0 Tryz.prog Tryz.f22 false [⟨true, (.pair (.sl .int) (.pair (.sl .int) (.pair (.pair (.pair (.sl .int) (.pair (.sl .int) (.pair (.sl .int) (.sl .int)))) (.pair (.pair (.sl .int) (.pair (.sl .int) (.pair (.sl .int) (.sl .int)))) (.pair (.sl .int) (.pair (.sl .int) (.pair (.sl .int) (.sl .int)))))) (.pair .int (.sl .int)))))⟩, ⟨false, .int⟩, ⟨false, .int⟩]), CutOk (fun _ _ _ _ => none) p := cutsNil (by kernel_rfl)
set_option maxRecDepth 5000000 in
theorem arena_End_run (x : Tup [⟨true, (.pair (.sl .int) (.pair (.sl .int) (.pair (.pair (.pair (.sl .int) (.pair (.sl .int) (.pair (.sl .int) (.sl .int)))) (.pair (.pair (.sl .int) (.pair (.sl .int) (.pair (.sl .int) (.sl .int)))) (.pair (.sl .int) (.pair (.sl .int) (.pair (.sl .int) (.sl .int)))))) (.pair .int (.sl .int)))))⟩, ⟨false, .int⟩]) : (pxFn Tryz.prog (lkΓ [(79, arena_may_S), (81, era_Unpin_S), (82, arena_Turn_S)]) [] Tryz.f48 (bodyOf Tryz.f48) false [⟨true, (.pair (.sl .int) (.pair (.sl .int) (.pair (.pair (.pair (.sl .int) (.pair (.sl .int) (.pair (.sl .int) (.sl .int)))) (.pair (.pair (.sl .int) (.pair (.sl .int) (.pair (.sl .int) (.sl .int)))) (.pair (.sl .int) (.pair (.sl .int) (.pair (.sl .int) (.sl .int)))))) (.pair .int (.sl .int)))))⟩, ⟨false, .int⟩] (encTup [⟨true, (.pair (.sl .int) (.pair (.sl .int) (.pair (.pair (.pair (.sl .int) (.pair (.sl .int) (.pair (.sl .int) (.sl .int)))) (.pair (.pair (.sl .int) (.pair (.sl .int) (.pair (.sl .int) (.sl .int)))) (.pair (.sl .int) (.pair (.sl .int) (.pair (.sl .int) (.sl .int)))))) (.pair .int (.sl .int)))))⟩, ⟨false, .int⟩] x)).run (fun _ _ _ => none) = arena_End x := by kernel_rfl
theorem arena_End_cuts : ∀ p ∈ cuts Tryz.prog (lkΓ [(79, arena_may_S), (81, era_Unpin_S), (82, arena_Turn_S)]) Tryz.f48.ntmps [] (bodyOf Tryz.f48) (κ0 Tryz.prog Tryz.f48 false [⟨true, (.pair (.sl .int) (.pair (.sl .int) (.pair (.pair (.pair (.sl .int) (.pair (.sl .int) (.pair (.sl .int) (.sl .int)))) (.pair (.pair (.sl .int) (.pair (.sl .int) (.pair (.sl .int) (.sl .int)))) (.pair (.sl .int) (.pair (.sl .int) (.pair (.sl .int) (.sl .int)))))) (.pair .int (.sl .int)))))⟩, ⟨false, .int⟩]), CutOk (fun _ _ _ _ => none) p := cutsNil (by kernel_rfl)
set_option maxRecDepth 5000000 in
theorem tendrilref07_Gen_run (x : Tup [⟨true, (.pair (.sl .int) (.pair (.sl .int) (.pair (.pair (.pair (.sl .int) (.pair (.sl .int) (.pair (.sl .int) (.sl .int)))) (.pair (.pair (.sl .int) (.pair (.sl .int) (.pair (.sl .int) (.sl .int)))) (.pair (.sl .int) (.pair (.sl .int) (.pair (.sl .int) (.sl .int)))))) (.pair .int (.sl .int)))))⟩, ⟨false, .int⟩, ⟨false, .int⟩]) : (pxFn Tryz.prog (lkΓ [(23, tendrilref01_Unpack_S), (52, tendrilref07_Check_S), (68, tendrilref07_kind_S)]) [] Tryz.f24 (bodyOf Tryz.f24) false [⟨false, .int⟩, ⟨false, .int⟩, ⟨false, .int⟩] (encTup [⟨true, (.pair (.sl .int) (.pair (.sl .int) (.pair (.pair (.pair (.sl .int) (.pair (.sl .int) (.pair (.sl .int) (.sl .int)))) (.pair (.pair (.sl .int) (.pair (.sl .int) (.pair (.sl .int) (.sl .int)))) (.pair (.sl .int) (.pair (.sl .int) (.pair (.sl .int) (.sl .int)))))) (.pair .int (.sl .int)))))⟩, ⟨false, .int⟩, ⟨false, .int⟩] x)).run (fun _ _ _ => none) = tendrilref07_Gen x := by kernel_rfl
theorem tendrilref07_Gen_cuts : ∀ p ∈ cuts Tryz.prog (lkΓ [(23, tendrilref01_Unpack_S), (52, tendrilref07_Check_S), (68, tendrilref07_kind_S)]) Tryz.f24.ntmps [] (bodyOf Tryz.f24) (κ0 Tryz.prog Tryz.f24 false [⟨false, .int⟩, ⟨false, .int⟩, ⟨false, .int⟩]), CutOk (fun _ _ _ _ => none) p := cutsNil (by kernel_rfl)
set_option maxRecDepth 5000000 in
theorem ask_New_run (x : Tup [⟨true, (.pair .int (.pair .int (.pair .int (.pair .int .int))))⟩, ⟨false, .int⟩]) : (pxFn Tryz.prog (lkΓ [(28, arena_New_S), (29, place_New_S)]) [] Tryz.f11 (bodyOf Tryz.f11) true [⟨true, (.pair (.sl .int) (.pair (.sl .int) (.pair (.pair (.pair (.sl .int) (.pair (.sl .int) (.pair (.sl .int) (.sl .int)))) (.pair (.pair (.sl .int) (.pair (.sl .int) (.pair (.sl .int) (.sl .int)))) (.pair (.sl .int) (.pair (.sl .int) (.pair (.sl .int) (.sl .int)))))) (.pair .int (.sl .int)))))⟩, ⟨false, .int⟩] (encTup [⟨true, (.pair .int (.pair .int (.pair .int (.pair .int .int))))⟩, ⟨false, .int⟩] x)).run (fun _ _ _ => none) = ask_New x := by kernel_rfl
theorem ask_New_cuts : ∀ p ∈ cuts Tryz.prog (lkΓ [(28, arena_New_S), (29, place_New_S)]) Tryz.f11.ntmps [] (bodyOf Tryz.f11) (κ0 Tryz.prog Tryz.f11 true [⟨true, (.pair (.sl .int) (.pair (.sl .int) (.pair (.pair (.pair (.sl .int) (.pair (.sl .int) (.pair (.sl .int) (.sl .int)))) (.pair (.pair (.sl .int) (.pair (.sl .int) (.pair (.sl .int) (.sl .int)))) (.pair (.sl .int) (.pair (.sl .int) (.pair (.sl .int) (.sl .int)))))) (.pair .int (.sl .int)))))⟩, ⟨false, .int⟩]), CutOk (fun _ _ _ _ => none) p := cutsNil (by kernel_rfl)
set_option maxRecDepth 5000000 in
theorem tendrilref05_Take_run (x : Tup [⟨true, (.pair (.sl .int) (.pair (.sl .int) (.pair (.sl .int) (.sl .int))))⟩]) : (pxFn Tryz.prog (lkΓ [(85, tendrilref05_Check_S), (109, tendrilref05_Copy_S), (110, tendrilref01_Pack_S)]) [] Tryz.f92 (bodyOf Tryz.f92) true [⟨true, (.pair (.sl .int) (.pair (.sl .int) (.pair (.sl .int) (.sl .int))))⟩, ⟨false, .int⟩, ⟨false, .int⟩] (encTup [⟨true, (.pair (.sl .int) (.pair (.sl .int) (.pair (.sl .int) (.sl .int))))⟩] x)).run (fun _ _ _ => none) = tendrilref05_Take x := by kernel_rfl
theorem tendrilref05_Take_cuts : ∀ p ∈ cuts Tryz.prog (lkΓ [(85, tendrilref05_Check_S), (109, tendrilref05_Copy_S), (110, tendrilref01_Pack_S)]) Tryz.f92.ntmps [] (bodyOf Tryz.f92) (κ0 Tryz.prog Tryz.f92 true [⟨true, (.pair (.sl .int) (.pair (.sl .int) (.pair (.sl .int) (.sl .int))))⟩, ⟨false, .int⟩, ⟨false, .int⟩]), CutOk (fun _ _ _ _ => none) p := cutsNil (by kernel_rfl)
set_option maxRecDepth 5000000 in
theorem tendrilref05_Same_run (x : Tup [⟨true, (.pair (.sl .int) (.pair (.sl .int) (.pair (.sl .int) (.sl .int))))⟩, ⟨true, (.pair (.sl .int) (.pair (.sl .int) (.pair (.sl .int) (.sl .int))))⟩]) : (pxFn Tryz.prog (lkΓ [(27, tendrilref02_Same_S)]) [] Tryz.f25 (bodyOf Tryz.f25) false [⟨false, .bool⟩] (encTup [⟨true, (.pair (.sl .int) (.pair (.sl .int) (.pair (.sl .int) (.sl .int))))⟩, ⟨true, (.pair (.sl .int) (.pair (.sl .int) (.pair (.sl .int) (.sl .int))))⟩] x)).run (fun _ _ _ => none) = tendrilref05_Same x := by kernel_rfl
theorem tendrilref05_Same_cuts : ∀ p ∈ cuts Tryz.prog (lkΓ [(27, tendrilref02_Same_S)]) Tryz.f25.ntmps [] (bodyOf Tryz.f25) (κ0 Tryz.prog Tryz.f25 false [⟨false, .bool⟩]), CutOk (fun _ _ _ _ => none) p := cutsNil (by kernel_rfl)
set_option maxRecDepth 5000000 in
theorem slices_ContainsFunc_era_Check_1_run (x : Tup [⟨false, (.sl .int)⟩, ⟨false, (.clo 96 (.ref (.pair .int (.sl .int))))⟩]) : (pxFn Tryz.prog (lkΓ [(97000075, slices_IndexFunc_era_Check_1_S)]) [] Tryz.f35 (bodyOf Tryz.f35) false [⟨false, .bool⟩] (encTup [⟨false, (.sl .int)⟩, ⟨false, (.clo 96 (.ref (.pair .int (.sl .int))))⟩] x)).run (fun _ _ _ => none) = slices_ContainsFunc_era_Check_1 x := by kernel_rfl
theorem slices_ContainsFunc_era_Check_1_cuts : ∀ p ∈ cuts Tryz.prog (lkΓ [(97000075, slices_IndexFunc_era_Check_1_S)]) Tryz.f35.ntmps [] (bodyOf Tryz.f35) (κ0 Tryz.prog Tryz.f35 false [⟨false, .bool⟩]), CutOk (fun _ _ _ _ => none) p := cutsNil (by kernel_rfl)
set_option maxRecDepth 5000000 in
theorem era_Unpin_run (x : Tup [⟨true, (.pair .int (.sl .int))⟩, ⟨false, .int⟩]) : (pxFn Tryz.prog (lkΓ [(98, era_pinned_S), (99, era_with_S)]) [] Tryz.f81 (bodyOf Tryz.f81) true [⟨true, (.pair .int (.sl .int))⟩, ⟨false, .int⟩] (encTup [⟨true, (.pair .int (.sl .int))⟩, ⟨false, .int⟩] x)).run (fun _ _ _ => none) = era_Unpin x := by kernel_rfl
theorem era_Unpin_cuts : ∀ p ∈ cuts Tryz.prog (lkΓ [(98, era_pinned_S), (99, era_with_S)]) Tryz.f81.ntmps [] (bodyOf Tryz.f81) (κ0 Tryz.prog Tryz.f81 true [⟨true, (.pair .int (.sl .int))⟩, ⟨false, .int⟩]), CutOk (fun _ _ _ _ => none) p := cutsNil (by kernel_rfl)
set_option maxRecDepth 5000000 in
theorem math_bits_Mul32_run (x : Tup [⟨false, (.num .u32)⟩, ⟨false, (.num .u32)⟩]) : (pxFn Tryz.prog (lkΓ []) [] Tryz.f114 (bodyOf Tryz.f114) false [⟨false, (.num .u32)⟩, ⟨false, (.num .u32)⟩] (encTup [⟨false, (.num .u32)⟩, ⟨false, (.num .u32)⟩] x)).run (fun _ _ _ => none) = math_bits_Mul32 x := by kernel_rfl
theorem math_bits_Mul32_cuts : ∀ p ∈ cuts Tryz.prog (lkΓ []) Tryz.f114.ntmps [] (bodyOf Tryz.f114) (κ0 Tryz.prog Tryz.f114 false [⟨false, (.num .u32)⟩, ⟨false, (.num .u32)⟩]), CutOk (fun _ _ _ _ => none) p := cutsNil (by kernel_rfl)
set_option maxRecDepth 5000000 in
theorem era_Check_run (x : Tup [⟨true, (.pair .int (.sl .int))⟩]) : (pxFn Tryz.prog (lkΓ [(97000035, slices_ContainsFunc_era_Check_1_S)]) [] Tryz.f73 (bodyOf Tryz.f73) false [⟨false, .int⟩] (encTup [⟨true, (.pair .int (.sl .int))⟩] x)).run (fun _ _ _ => none) = era_Check x := by kernel_rfl
theorem era_Check_cuts : ∀ p ∈ cuts Tryz.prog (lkΓ [(97000035, slices_ContainsFunc_era_Check_1_S)]) Tryz.f73.ntmps [] (bodyOf Tryz.f73) (κ0 Tryz.prog Tryz.f73 false [⟨false, .int⟩]), CutOk (fun _ _ _ _ => none) p := cutsNil (by kernel_rfl)
set_option maxRecDepth 5000000 in
theorem era_New_run (x : Tup [⟨false, .int⟩]) : (pxFn Tryz.prog (lkΓ [(94, slices_Repeat_S)]) [] Tryz.f69 (bodyOf Tryz.f69) true [⟨true, (.pair .int (.sl .int))⟩, ⟨false, .int⟩] (encTup [⟨false, .int⟩] x)).run (fun _ _ _ => none) = era_New x := by kernel_rfl
theorem era_New_cuts : ∀ p ∈ cuts Tryz.prog (lkΓ [(94, slices_Repeat_S)]) Tryz.f69.ntmps [] (bodyOf Tryz.f69) (κ0 Tryz.prog Tryz.f69 true [⟨true, (.pair .int (.sl .int))⟩, ⟨false, .int⟩]), CutOk (fun _ _ _ _ => none) p := cutsNil (by kernel_rfl)
set_option maxRecDepth 5000000 in
theorem era_Safe_run (x : Tup [⟨true, (.pair .int (.sl .int))⟩]) : (pxFn Tryz.prog (lkΓ [(73, era_Check_S)]) [] Tryz.f102 (bodyOf Tryz.f102) false [⟨false, .int⟩] (encTup [⟨true, (.pair .int (.sl .int))⟩] x)).run (fun _ _ _ => none) = era_Safe x := by kernel_rfl
theorem era_Safe_cuts : ∀ p ∈ cuts Tryz.prog (lkΓ [(73, era_Check_S)]) Tryz.f102.ntmps [] (bodyOf Tryz.f102) (κ0 Tryz.prog Tryz.f102 false [⟨false, .int⟩]), CutOk (fun _ _ _ _ => none) p := cutsNil (by kernel_rfl)
set_option maxRecDepth 5000000 in
theorem tendrilref02_Copy_run (x : Tup [⟨false, (.sl .int)⟩]) : (pxFn Tryz.prog (lkΓ []) [] Tryz.f6 (bodyOf Tryz.f6) true [⟨false, (.sl .int)⟩] (encTup [⟨false, (.sl .int)⟩] x)).run (fun _ _ _ => none) = tendrilref02_Copy x := by kernel_rfl
theorem tendrilref02_Copy_cuts : ∀ p ∈ cuts Tryz.prog (lkΓ []) Tryz.f6.ntmps [] (bodyOf Tryz.f6) (κ0 Tryz.prog Tryz.f6 true [⟨false, (.sl .int)⟩]), CutOk (fun _ _ _ _ => none) p := cutsNil (by kernel_rfl)
end Go.Proofs.YtcoiboghdmmdcadGreatFn
