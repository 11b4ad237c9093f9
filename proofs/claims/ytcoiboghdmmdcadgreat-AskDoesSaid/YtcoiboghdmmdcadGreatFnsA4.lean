/- What the interpreter of code computes of these functions, part 4; no condition. -/
import Derived.Test.YtcoiboghdmmdcadGreatProg
import Derived.KernelRfl
import Derived.Test.YtcoiboghdmmdcadGreatPx25
import Derived.Test.YtcoiboghdmmdcadGreatFnsD
set_option linter.unusedVariables false
set_option linter.unusedSimpArgs false
namespace Go.Proofs.YtcoiboghdmmdcadGreatFn
open Go Go.RowKit Go.Proofs.YtcoiboghdmmdcadGreatPx
set_option maxHeartbeats 0 in
set_option maxRecDepth 5000000 in
def tendrilref05_Check_P14v0 (k : Nat) (vs : List SV) (bs : List Blk) : Option (Option (Int)) := match vs, bs with
  | [.val (.one (.ptr 0 0)), .val (.one (.int .i64 p0)), .val (.one (.int .i64 p1)), .val (.one (.int .i64 p2))], [.box [(.sl .int p3), (.sl .int p4), (.sl .int p5), (.sl .int p6)]] => some (tendrilref05_Check_L14 k p0 p1 p2 p3 p4 p5 p6)
  | _, _ => none
set_option maxHeartbeats 0 in
set_option maxRecDepth 5000000 in
def tendrilref05_Check_P26v0 (k : Nat) (vs : List SV) (bs : List Blk) : Option (Option (Int)) := match vs, bs with
  | [.val (.one (.ptr 0 0)), .val (.one (.int .i64 p0)), .val (.one (.int .i64 p1)), .val (.one (.int .i64 p2)), .val (.one (.int .i64 p3)), .val (.one (.int .i64 p4)), .val (.one (.sl .int p5)), .val (.one (.int .i64 p6)), .val (.one (.int .i64 p7))], [.box [(.sl .int p8), (.sl .int p9), (.sl .int p10), (.sl .int p11)]] => some (tendrilref05_Check_L26 k p0 p1 p2 p3 p4 p5 p6 p7 p8 p9 p10 p11)
  | _, _ => none
def tendrilref05_Check_P14 (k : Nat) (vs : List SV) (bs : List Blk) : Option (Int) := match tendrilref05_Check_P14v0 k vs bs with | some r => r | none => none
def tendrilref05_Check_P26 (k : Nat) (vs : List SV) (bs : List Blk) : Option (Int) := match tendrilref05_Check_P26v0 k vs bs with | some r => r | none => none
def tendrilref05_Check_Λ (k L : Nat) (vs : List SV) (bs : List Blk) : Option (Int) := match Nat.beq L 14 with | true => tendrilref05_Check_P14 k vs bs | false => match Nat.beq L 26 with | true => tendrilref05_Check_P26 k vs bs | false => none
noncomputable def tendrilref05_Check_C : List (Cut (Tup [⟨false, .int⟩])) := cuts Tryz.prog (lkΓ []) Tryz.f85.ntmps [(26, [1, 4, 5, 6, 32, 33, 83, 84, 85]), (14, [1, 4, 32, 33])] (bodyOf Tryz.f85) (κ0 Tryz.prog Tryz.f85 false [⟨false, .int⟩])
set_option maxRecDepth 5000000 in
theorem tendrilref05_Check_c14 (k : Nat) (p0 : Int) (p1 : Int) (p2 : Int) (p3 : List Int) (p4 : List Int) (p5 : List Int) (p6 : List Int) : ((nthC tendrilref05_Check_C 0).g (mkSt [1, 4, 32, 33] [.val (.one (.ptr 0 0)), .val (.one (.int .i64 p0)), .val (.one (.int .i64 p1)), .val (.one (.int .i64 p2))] [.box [(.sl .int p3), (.sl .int p4), (.sl .int p5), (.sl .int p6)]])).run (tendrilref05_Check_Λ k) = tendrilref05_Check_L14 (k + 1) p0 p1 p2 p3 p4 p5 p6 := by kernel_rfl
set_option maxHeartbeats 0 in
set_option maxRecDepth 5000000 in
theorem tendrilref05_Check_e14 (k : Nat) (vs : List SV) (bs : List Blk) (r : Int) (h : tendrilref05_Check_P14v0 (k + 1) vs bs = some (some r)) : ((nthC tendrilref05_Check_C 0).g (mkSt [1, 4, 32, 33] vs bs)).run (tendrilref05_Check_Λ k) = some r := by
  unfold tendrilref05_Check_P14v0 at h
  split at h
  · exact (tendrilref05_Check_c14 k _ _ _ _ _ _ _).trans (Option.some.inj h)
  · cases h
set_option maxRecDepth 5000000 in
theorem tendrilref05_Check_c26 (k : Nat) (p0 : Int) (p1 : Int) (p2 : Int) (p3 : Int) (p4 : Int) (p5 : List Int) (p6 : Int) (p7 : Int) (p8 : List Int) (p9 : List Int) (p10 : List Int) (p11 : List Int) : ((nthC tendrilref05_Check_C 1).g (mkSt [1, 4, 5, 6, 32, 33, 83, 84, 85] [.val (.one (.ptr 0 0)), .val (.one (.int .i64 p0)), .val (.one (.int .i64 p1)), .val (.one (.int .i64 p2)), .val (.one (.int .i64 p3)), .val (.one (.int .i64 p4)), .val (.one (.sl .int p5)), .val (.one (.int .i64 p6)), .val (.one (.int .i64 p7))] [.box [(.sl .int p8), (.sl .int p9), (.sl .int p10), (.sl .int p11)]])).run (tendrilref05_Check_Λ k) = tendrilref05_Check_L26 (k + 1) p0 p1 p2 p3 p4 p5 p6 p7 p8 p9 p10 p11 := by kernel_rfl
set_option maxHeartbeats 0 in
set_option maxRecDepth 5000000 in
theorem tendrilref05_Check_e26 (k : Nat) (vs : List SV) (bs : List Blk) (r : Int) (h : tendrilref05_Check_P26v0 (k + 1) vs bs = some (some r)) : ((nthC tendrilref05_Check_C 1).g (mkSt [1, 4, 5, 6, 32, 33, 83, 84, 85] vs bs)).run (tendrilref05_Check_Λ k) = some r := by
  unfold tendrilref05_Check_P26v0 at h
  split at h
  · exact (tendrilref05_Check_c26 k _ _ _ _ _ _ _ _ _ _ _ _).trans (Option.some.inj h)
  · cases h
theorem tendrilref05_Check_d14 : CutOk tendrilref05_Check_Λ (nthC tendrilref05_Check_C 0) := by
  refine cutOk_of (L := 14) (live := [1, 4, 32, 33]) (by kernel_rfl) (by kernel_rfl) fun k vs bs r h => ?_
  change tendrilref05_Check_P14 (k + 1) vs bs = some r at h
  unfold tendrilref05_Check_P14 at h
  split at h
  · rename_i q hq
    exact tendrilref05_Check_e14 k vs bs r (hq.trans (congrArg some h))
  cases h
theorem tendrilref05_Check_d26 : CutOk tendrilref05_Check_Λ (nthC tendrilref05_Check_C 1) := by
  refine cutOk_of (L := 26) (live := [1, 4, 5, 6, 32, 33, 83, 84, 85]) (by kernel_rfl) (by kernel_rfl) fun k vs bs r h => ?_
  change tendrilref05_Check_P26 (k + 1) vs bs = some r at h
  unfold tendrilref05_Check_P26 at h
  split at h
  · rename_i q hq
    exact tendrilref05_Check_e26 k vs bs r (hq.trans (congrArg some h))
  cases h
theorem tendrilref05_Check_cuts : ∀ p ∈ cuts Tryz.prog (lkΓ []) Tryz.f85.ntmps [(26, [1, 4, 5, 6, 32, 33, 83, 84, 85]), (14, [1, 4, 32, 33])] (bodyOf Tryz.f85) (κ0 Tryz.prog Tryz.f85 false [⟨false, .int⟩]), CutOk tendrilref05_Check_Λ p := cutsOk (l := tendrilref05_Check_C) (n := 2) (by kernel_rfl) fun
  | 0, _ => tendrilref05_Check_d14
  | 1, _ => tendrilref05_Check_d26
  | k + 2, h => absurd h (by omega)
set_option maxHeartbeats 0 in
set_option maxRecDepth 5000000 in
theorem tendrilref05_Check_z14 (vs : List SV) (bs : List Blk) (q : Option (Int)) (h : tendrilref05_Check_P14v0 0 vs bs = some q) : q = none := by
  unfold tendrilref05_Check_P14v0 at h; split at h
  · have h := Option.some.inj h; rw [← h]; first | rfl | (unfold tendrilref05_Check_L14; rfl)
  · cases h
set_option maxHeartbeats 0 in
set_option maxRecDepth 5000000 in
theorem tendrilref05_Check_z26 (vs : List SV) (bs : List Blk) (q : Option (Int)) (h : tendrilref05_Check_P26v0 0 vs bs = some q) : q = none := by
  unfold tendrilref05_Check_P26v0 at h; split at h
  · have h := Option.some.inj h; rw [← h]; first | rfl | (unfold tendrilref05_Check_L26; rfl)
  · cases h
theorem tendrilref05_Check_Λ0 (L : Nat) (vs : List SV) (bs : List Blk) : tendrilref05_Check_Λ 0 L vs bs = none := by
  unfold tendrilref05_Check_Λ
  split
  · unfold tendrilref05_Check_P14
    split
    · rename_i q hq; exact tendrilref05_Check_z14 _ _ q hq
    rfl
  split
  · unfold tendrilref05_Check_P26
    split
    · rename_i q hq; exact tendrilref05_Check_z26 _ _ q hq
    rfl
  rfl
set_option maxRecDepth 5000000 in
theorem tendrilref05_Check_run (K : Nat) (x : Tup [⟨true, (.pair (.sl .int) (.pair (.sl .int) (.pair (.sl .int) (.sl .int))))⟩]) : (pxFn Tryz.prog (lkΓ []) [(26, [1, 4, 5, 6, 32, 33, 83, 84, 85]), (14, [1, 4, 32, 33])] Tryz.f85 (bodyOf Tryz.f85) false [⟨false, .int⟩] (encTup [⟨true, (.pair (.sl .int) (.pair (.sl .int) (.pair (.sl .int) (.sl .int))))⟩] x)).run (tendrilref05_Check_Λ K) = tendrilref05_Check_K K x := by kernel_rfl
set_option maxHeartbeats 0 in
set_option maxRecDepth 5000000 in
def arena_Check_P6v0 (k : Nat) (vs : List SV) (bs : List Blk) : Option (Option (Int)) := match vs, bs with
  | [.val (.one (.ptr 0 0)), .val (.agg [(.sl .int p0), (.sl .int p1), (.sl .int p2), (.sl .int p3), (.sl .int p4), (.sl .int p5), (.sl .int p6), (.sl .int p7), (.sl .int p8), (.sl .int p9), (.sl .int p10), (.sl .int p11)]), .val (.one (.int .i64 p12))], [.box [(.sl .int p13), (.sl .int p14), (.sl .int p15), (.sl .int p16), (.sl .int p17), (.sl .int p18), (.sl .int p19), (.sl .int p20), (.sl .int p21), (.sl .int p22), (.sl .int p23), (.sl .int p24), (.sl .int p25), (.sl .int p26), (.int .i64 p27), (.sl .int p28)]] => some (arena_Check_L6 k p0 p1 p2 p3 p4 p5 p6 p7 p8 p9 p10 p11 p12 p13 p14 p15 p16 p17 p18 p19 p20 p21 p22 p23 p24 p25 p26 p27 p28)
  | _, _ => none
def arena_Check_P6 (k : Nat) (vs : List SV) (bs : List Blk) : Option (Int) := match arena_Check_P6v0 k vs bs with | some r => r | none => none
def arena_Check_Λ (k L : Nat) (vs : List SV) (bs : List Blk) : Option (Int) := match Nat.beq L 6 with | true => arena_Check_P6 k vs bs | false => none
noncomputable def arena_Check_C : List (Cut (Tup [⟨false, .int⟩])) := cuts Tryz.prog (lkΓ [(72, pool_Check_S), (73, era_Check_S)]) Tryz.f33.ntmps [(6, [1, 7, 8])] (bodyOf Tryz.f33) (κ0 Tryz.prog Tryz.f33 false [⟨false, .int⟩])
set_option maxRecDepth 5000000 in
theorem arena_Check_c6 (k : Nat) (p0 : List Int) (p1 : List Int) (p2 : List Int) (p3 : List Int) (p4 : List Int) (p5 : List Int) (p6 : List Int) (p7 : List Int) (p8 : List Int) (p9 : List Int) (p10 : List Int) (p11 : List Int) (p12 : Int) (p13 : List Int) (p14 : List Int) (p15 : List Int) (p16 : List Int) (p17 : List Int) (p18 : List Int) (p19 : List Int) (p20 : List Int) (p21 : List Int) (p22 : List Int) (p23 : List Int) (p24 : List Int) (p25 : List Int) (p26 : List Int) (p27 : Int) (p28 : List Int) : ((nthC arena_Check_C 0).g (mkSt [1, 7, 8] [.val (.one (.ptr 0 0)), .val (.agg [(.sl .int p0), (.sl .int p1), (.sl .int p2), (.sl .int p3), (.sl .int p4), (.sl .int p5), (.sl .int p6), (.sl .int p7), (.sl .int p8), (.sl .int p9), (.sl .int p10), (.sl .int p11)]), .val (.one (.int .i64 p12))] [.box [(.sl .int p13), (.sl .int p14), (.sl .int p15), (.sl .int p16), (.sl .int p17), (.sl .int p18), (.sl .int p19), (.sl .int p20), (.sl .int p21), (.sl .int p22), (.sl .int p23), (.sl .int p24), (.sl .int p25), (.sl .int p26), (.int .i64 p27), (.sl .int p28)]])).run (arena_Check_Λ k) = arena_Check_L6 (k + 1) p0 p1 p2 p3 p4 p5 p6 p7 p8 p9 p10 p11 p12 p13 p14 p15 p16 p17 p18 p19 p20 p21 p22 p23 p24 p25 p26 p27 p28 := by kernel_rfl
set_option maxHeartbeats 0 in
set_option maxRecDepth 5000000 in
theorem arena_Check_e6 (k : Nat) (vs : List SV) (bs : List Blk) (r : Int) (h : arena_Check_P6v0 (k + 1) vs bs = some (some r)) : ((nthC arena_Check_C 0).g (mkSt [1, 7, 8] vs bs)).run (arena_Check_Λ k) = some r := by
  unfold arena_Check_P6v0 at h
  split at h
  · exact (arena_Check_c6 k _ _ _ _ _ _ _ _ _ _ _ _ _ _ _ _ _ _ _ _ _ _ _ _ _ _ _ _ _).trans (Option.some.inj h)
  · cases h
theorem arena_Check_d6 : CutOk arena_Check_Λ (nthC arena_Check_C 0) := by
  refine cutOk_of (L := 6) (live := [1, 7, 8]) (by kernel_rfl) (by kernel_rfl) fun k vs bs r h => ?_
  change arena_Check_P6 (k + 1) vs bs = some r at h
  unfold arena_Check_P6 at h
  split at h
  · rename_i q hq
    exact arena_Check_e6 k vs bs r (hq.trans (congrArg some h))
  cases h
theorem arena_Check_cuts : ∀ p ∈ cuts Tryz.prog (lkΓ [(72, pool_Check_S), (73, era_Check_S)]) Tryz.f33.ntmps [(6, [1, 7, 8])] (bodyOf Tryz.f33) (κ0 Tryz.prog Tryz.f33 false [⟨false, .int⟩]), CutOk arena_Check_Λ p := cutsOk (l := arena_Check_C) (n := 1) (by kernel_rfl) fun
  | 0, _ => arena_Check_d6
  | k + 1, h => absurd h (by omega)
set_option maxHeartbeats 0 in
set_option maxRecDepth 5000000 in
theorem arena_Check_z6 (vs : List SV) (bs : List Blk) (q : Option (Int)) (h : arena_Check_P6v0 0 vs bs = some q) : q = none := by
  unfold arena_Check_P6v0 at h; split at h
  · have h := Option.some.inj h; rw [← h]; first | rfl | (unfold arena_Check_L6; rfl)
  · cases h
theorem arena_Check_Λ0 (L : Nat) (vs : List SV) (bs : List Blk) : arena_Check_Λ 0 L vs bs = none := by
  unfold arena_Check_Λ
  split
  · unfold arena_Check_P6
    split
    · rename_i q hq; exact arena_Check_z6 _ _ q hq
    rfl
  rfl
set_option maxRecDepth 5000000 in
theorem arena_Check_run (K : Nat) (x : Tup [⟨true, (.pair (.sl .int) (.pair (.sl .int) (.pair (.pair (.pair (.sl .int) (.pair (.sl .int) (.pair (.sl .int) (.sl .int)))) (.pair (.pair (.sl .int) (.pair (.sl .int) (.pair (.sl .int) (.sl .int)))) (.pair (.sl .int) (.pair (.sl .int) (.pair (.sl .int) (.sl .int)))))) (.pair .int (.sl .int)))))⟩]) : (pxFn Tryz.prog (lkΓ [(72, pool_Check_S), (73, era_Check_S)]) [(6, [1, 7, 8])] Tryz.f33 (bodyOf Tryz.f33) false [⟨false, .int⟩] (encTup [⟨true, (.pair (.sl .int) (.pair (.sl .int) (.pair (.pair (.pair (.sl .int) (.pair (.sl .int) (.pair (.sl .int) (.sl .int)))) (.pair (.pair (.sl .int) (.pair (.sl .int) (.pair (.sl .int) (.sl .int)))) (.pair (.sl .int) (.pair (.sl .int) (.pair (.sl .int) (.sl .int)))))) (.pair .int (.sl .int)))))⟩] x)).run (arena_Check_Λ K) = arena_Check_K K x := by kernel_rfl
set_option maxHeartbeats 0 in
set_option maxRecDepth 5000000 in
def tendrilref16_SameTouches_P10v0 (k : Nat) (vs : List SV) (bs : List Blk) : Option (Option (Bool)) := match vs, bs with
  | [.val (.one (.sl (.pair .int (.pair .int (.pair .int (.pair .int (.pair .int (.pair .int (.pair .int .bool))))))) p0)), .val (.one (.sl (.pair .int (.pair .int (.pair .int (.pair .int (.pair .int (.pair .int (.pair .int .bool))))))) p1)), .val (.one (.int .i64 p2)), .val (.one (.int .i64 p3))], [] => some (tendrilref16_SameTouches_L10 k p0 p1 p2 p3)
  | _, _ => none
def tendrilref16_SameTouches_P10 (k : Nat) (vs : List SV) (bs : List Blk) : Option (Bool) := match tendrilref16_SameTouches_P10v0 k vs bs with | some r => r | none => none
def tendrilref16_SameTouches_Λ (k L : Nat) (vs : List SV) (bs : List Blk) : Option (Bool) := match Nat.beq L 10 with | true => tendrilref16_SameTouches_P10 k vs bs | false => none
noncomputable def tendrilref16_SameTouches_C : List (Cut (Tup [⟨false, .bool⟩])) := cuts Tryz.prog (lkΓ []) Tryz.f10.ntmps [(10, [0, 1, 12, 13])] (bodyOf Tryz.f10) (κ0 Tryz.prog Tryz.f10 false [⟨false, .bool⟩])
set_option maxRecDepth 5000000 in
theorem tendrilref16_SameTouches_c10 (k : Nat) (p0 : List (Int × Int × Int × Int × Int × Int × Int × Bool)) (p1 : List (Int × Int × Int × Int × Int × Int × Int × Bool)) (p2 : Int) (p3 : Int) : ((nthC tendrilref16_SameTouches_C 0).g (mkSt [0, 1, 12, 13] [.val (.one (.sl (.pair .int (.pair .int (.pair .int (.pair .int (.pair .int (.pair .int (.pair .int .bool))))))) p0)), .val (.one (.sl (.pair .int (.pair .int (.pair .int (.pair .int (.pair .int (.pair .int (.pair .int .bool))))))) p1)), .val (.one (.int .i64 p2)), .val (.one (.int .i64 p3))] [])).run (tendrilref16_SameTouches_Λ k) = tendrilref16_SameTouches_L10 (k + 1) p0 p1 p2 p3 := by kernel_rfl
set_option maxHeartbeats 0 in
set_option maxRecDepth 5000000 in
theorem tendrilref16_SameTouches_e10 (k : Nat) (vs : List SV) (bs : List Blk) (r : Bool) (h : tendrilref16_SameTouches_P10v0 (k + 1) vs bs = some (some r)) : ((nthC tendrilref16_SameTouches_C 0).g (mkSt [0, 1, 12, 13] vs bs)).run (tendrilref16_SameTouches_Λ k) = some r := by
  unfold tendrilref16_SameTouches_P10v0 at h
  split at h
  · exact (tendrilref16_SameTouches_c10 k _ _ _ _).trans (Option.some.inj h)
  · cases h
theorem tendrilref16_SameTouches_d10 : CutOk tendrilref16_SameTouches_Λ (nthC tendrilref16_SameTouches_C 0) := by
  refine cutOk_of (L := 10) (live := [0, 1, 12, 13]) (by kernel_rfl) (by kernel_rfl) fun k vs bs r h => ?_
  change tendrilref16_SameTouches_P10 (k + 1) vs bs = some r at h
  unfold tendrilref16_SameTouches_P10 at h
  split at h
  · rename_i q hq
    exact tendrilref16_SameTouches_e10 k vs bs r (hq.trans (congrArg some h))
  cases h
theorem tendrilref16_SameTouches_cuts : ∀ p ∈ cuts Tryz.prog (lkΓ []) Tryz.f10.ntmps [(10, [0, 1, 12, 13])] (bodyOf Tryz.f10) (κ0 Tryz.prog Tryz.f10 false [⟨false, .bool⟩]), CutOk tendrilref16_SameTouches_Λ p := cutsOk (l := tendrilref16_SameTouches_C) (n := 1) (by kernel_rfl) fun
  | 0, _ => tendrilref16_SameTouches_d10
  | k + 1, h => absurd h (by omega)
set_option maxHeartbeats 0 in
set_option maxRecDepth 5000000 in
theorem tendrilref16_SameTouches_z10 (vs : List SV) (bs : List Blk) (q : Option (Bool)) (h : tendrilref16_SameTouches_P10v0 0 vs bs = some q) : q = none := by
  unfold tendrilref16_SameTouches_P10v0 at h; split at h
  · have h := Option.some.inj h; rw [← h]; first | rfl | (unfold tendrilref16_SameTouches_L10; rfl)
  · cases h
theorem tendrilref16_SameTouches_Λ0 (L : Nat) (vs : List SV) (bs : List Blk) : tendrilref16_SameTouches_Λ 0 L vs bs = none := by
  unfold tendrilref16_SameTouches_Λ
  split
  · unfold tendrilref16_SameTouches_P10
    split
    · rename_i q hq; exact tendrilref16_SameTouches_z10 _ _ q hq
    rfl
  rfl
set_option maxRecDepth 5000000 in
theorem tendrilref16_SameTouches_run (K : Nat) (x : Tup [⟨false, (.sl (.pair .int (.pair .int (.pair .int (.pair .int (.pair .int (.pair .int (.pair .int .bool))))))))⟩, ⟨false, (.sl (.pair .int (.pair .int (.pair .int (.pair .int (.pair .int (.pair .int (.pair .int .bool))))))))⟩]) : (pxFn Tryz.prog (lkΓ []) [(10, [0, 1, 12, 13])] Tryz.f10 (bodyOf Tryz.f10) false [⟨false, .bool⟩] (encTup [⟨false, (.sl (.pair .int (.pair .int (.pair .int (.pair .int (.pair .int (.pair .int (.pair .int .bool))))))))⟩, ⟨false, (.sl (.pair .int (.pair .int (.pair .int (.pair .int (.pair .int (.pair .int (.pair .int .bool))))))))⟩] x)).run (tendrilref16_SameTouches_Λ K) = tendrilref16_SameTouches_K K x := by kernel_rfl
set_option maxHeartbeats 0 in
set_option maxRecDepth 5000000 in
def slices_IndexFunc_era_Check_1_P6v0 (k : Nat) (vs : List SV) (bs : List Blk) : Option (Option (Int)) := match vs, bs with
  | [.val (.one (.sl .int p0)), .val (.one (.clo 96 (.ref (.pair .int (.sl .int))) p1)), .val (.one (.int .i64 p2)), .val (.one (.int .i64 p3))], [] => some (slices_IndexFunc_era_Check_1_L6 k p0 p1 p2 p3)
  | _, _ => none
def slices_IndexFunc_era_Check_1_P6 (k : Nat) (vs : List SV) (bs : List Blk) : Option (Int) := match slices_IndexFunc_era_Check_1_P6v0 k vs bs with | some r => r | none => none
def slices_IndexFunc_era_Check_1_Λ (k L : Nat) (vs : List SV) (bs : List Blk) : Option (Int) := match Nat.beq L 6 with | true => slices_IndexFunc_era_Check_1_P6 k vs bs | false => none
noncomputable def slices_IndexFunc_era_Check_1_C : List (Cut (Tup [⟨false, .int⟩])) := cuts Tryz.prog (lkΓ [(96, era_Check_1_S)]) Tryz.f75.ntmps [(6, [0, 1, 7, 8])] (bodyOf Tryz.f75) (κ0 Tryz.prog Tryz.f75 false [⟨false, .int⟩])
set_option maxRecDepth 5000000 in
theorem slices_IndexFunc_era_Check_1_c6 (k : Nat) (p0 : List Int) (p1 : Int × List Int) (p2 : Int) (p3 : Int) : ((nthC slices_IndexFunc_era_Check_1_C 0).g (mkSt [0, 1, 7, 8] [.val (.one (.sl .int p0)), .val (.one (.clo 96 (.ref (.pair .int (.sl .int))) p1)), .val (.one (.int .i64 p2)), .val (.one (.int .i64 p3))] [])).run (slices_IndexFunc_era_Check_1_Λ k) = slices_IndexFunc_era_Check_1_L6 (k + 1) p0 p1 p2 p3 := by kernel_rfl
set_option maxHeartbeats 0 in
set_option maxRecDepth 5000000 in
theorem slices_IndexFunc_era_Check_1_e6 (k : Nat) (vs : List SV) (bs : List Blk) (r : Int) (h : slices_IndexFunc_era_Check_1_P6v0 (k + 1) vs bs = some (some r)) : ((nthC slices_IndexFunc_era_Check_1_C 0).g (mkSt [0, 1, 7, 8] vs bs)).run (slices_IndexFunc_era_Check_1_Λ k) = some r := by
  unfold slices_IndexFunc_era_Check_1_P6v0 at h
  split at h
  · exact (slices_IndexFunc_era_Check_1_c6 k _ _ _ _).trans (Option.some.inj h)
  · cases h
theorem slices_IndexFunc_era_Check_1_d6 : CutOk slices_IndexFunc_era_Check_1_Λ (nthC slices_IndexFunc_era_Check_1_C 0) := by
  refine cutOk_of (L := 6) (live := [0, 1, 7, 8]) (by kernel_rfl) (by kernel_rfl) fun k vs bs r h => ?_
  change slices_IndexFunc_era_Check_1_P6 (k + 1) vs bs = some r at h
  unfold slices_IndexFunc_era_Check_1_P6 at h
  split at h
  · rename_i q hq
    exact slices_IndexFunc_era_Check_1_e6 k vs bs r (hq.trans (congrArg some h))
  cases h
theorem slices_IndexFunc_era_Check_1_cuts : ∀ p ∈ cuts Tryz.prog (lkΓ [(96, era_Check_1_S)]) Tryz.f75.ntmps [(6, [0, 1, 7, 8])] (bodyOf Tryz.f75) (κ0 Tryz.prog Tryz.f75 false [⟨false, .int⟩]), CutOk slices_IndexFunc_era_Check_1_Λ p := cutsOk (l := slices_IndexFunc_era_Check_1_C) (n := 1) (by kernel_rfl) fun
  | 0, _ => slices_IndexFunc_era_Check_1_d6
  | k + 1, h => absurd h (by omega)
set_option maxHeartbeats 0 in
set_option maxRecDepth 5000000 in
theorem slices_IndexFunc_era_Check_1_z6 (vs : List SV) (bs : List Blk) (q : Option (Int)) (h : slices_IndexFunc_era_Check_1_P6v0 0 vs bs = some q) : q = none := by
  unfold slices_IndexFunc_era_Check_1_P6v0 at h; split at h
  · have h := Option.some.inj h; rw [← h]; first | rfl | (unfold slices_IndexFunc_era_Check_1_L6; rfl)
  · cases h
theorem slices_IndexFunc_era_Check_1_Λ0 (L : Nat) (vs : List SV) (bs : List Blk) : slices_IndexFunc_era_Check_1_Λ 0 L vs bs = none := by
  unfold slices_IndexFunc_era_Check_1_Λ
  split
  · unfold slices_IndexFunc_era_Check_1_P6
    split
    · rename_i q hq; exact slices_IndexFunc_era_Check_1_z6 _ _ q hq
    rfl
  rfl
set_option maxRecDepth 5000000 in
theorem slices_IndexFunc_era_Check_1_run (K : Nat) (x : Tup [⟨false, (.sl .int)⟩, ⟨false, (.clo 96 (.ref (.pair .int (.sl .int))))⟩]) : (pxFn Tryz.prog (lkΓ [(96, era_Check_1_S)]) [(6, [0, 1, 7, 8])] Tryz.f75 (bodyOf Tryz.f75) false [⟨false, .int⟩] (encTup [⟨false, (.sl .int)⟩, ⟨false, (.clo 96 (.ref (.pair .int (.sl .int))))⟩] x)).run (slices_IndexFunc_era_Check_1_Λ K) = slices_IndexFunc_era_Check_1_K K x := by kernel_rfl
set_option maxHeartbeats 0 in
set_option maxRecDepth 5000000 in
def tendrilref06_Check_P10v0 (k : Nat) (vs : List SV) (bs : List Blk) : Option (Option (Int)) := match vs, bs with
  | [.val (.one (.ptr 0 0)), .val (.one (.sl .int p0)), .val (.one (.int .i64 p1)), .val (.one (.int .i64 p2))], [.box [(.int .i64 p3), (.sl .int p4)]] => some (tendrilref06_Check_L10 k p0 p1 p2 p3 p4)
  | _, _ => none
def tendrilref06_Check_P10 (k : Nat) (vs : List SV) (bs : List Blk) : Option (Int) := match tendrilref06_Check_P10v0 k vs bs with | some r => r | none => none
def tendrilref06_Check_Λ (k L : Nat) (vs : List SV) (bs : List Blk) : Option (Int) := match Nat.beq L 10 with | true => tendrilref06_Check_P10 k vs bs | false => none
noncomputable def tendrilref06_Check_C : List (Cut (Tup [⟨false, .int⟩])) := cuts Tryz.prog (lkΓ []) Tryz.f86.ntmps [(10, [1, 26, 27, 28])] (bodyOf Tryz.f86) (κ0 Tryz.prog Tryz.f86 false [⟨false, .int⟩])
set_option maxRecDepth 5000000 in
theorem tendrilref06_Check_c10 (k : Nat) (p0 : List Int) (p1 : Int) (p2 : Int) (p3 : Int) (p4 : List Int) : ((nthC tendrilref06_Check_C 0).g (mkSt [1, 26, 27, 28] [.val (.one (.ptr 0 0)), .val (.one (.sl .int p0)), .val (.one (.int .i64 p1)), .val (.one (.int .i64 p2))] [.box [(.int .i64 p3), (.sl .int p4)]])).run (tendrilref06_Check_Λ k) = tendrilref06_Check_L10 (k + 1) p0 p1 p2 p3 p4 := by kernel_rfl
set_option maxHeartbeats 0 in
set_option maxRecDepth 5000000 in
theorem tendrilref06_Check_e10 (k : Nat) (vs : List SV) (bs : List Blk) (r : Int) (h : tendrilref06_Check_P10v0 (k + 1) vs bs = some (some r)) : ((nthC tendrilref06_Check_C 0).g (mkSt [1, 26, 27, 28] vs bs)).run (tendrilref06_Check_Λ k) = some r := by
  unfold tendrilref06_Check_P10v0 at h
  split at h
  · exact (tendrilref06_Check_c10 k _ _ _ _ _).trans (Option.some.inj h)
  · cases h
theorem tendrilref06_Check_d10 : CutOk tendrilref06_Check_Λ (nthC tendrilref06_Check_C 0) := by
  refine cutOk_of (L := 10) (live := [1, 26, 27, 28]) (by kernel_rfl) (by kernel_rfl) fun k vs bs r h => ?_
  change tendrilref06_Check_P10 (k + 1) vs bs = some r at h
  unfold tendrilref06_Check_P10 at h
  split at h
  · rename_i q hq
    exact tendrilref06_Check_e10 k vs bs r (hq.trans (congrArg some h))
  cases h
theorem tendrilref06_Check_cuts : ∀ p ∈ cuts Tryz.prog (lkΓ []) Tryz.f86.ntmps [(10, [1, 26, 27, 28])] (bodyOf Tryz.f86) (κ0 Tryz.prog Tryz.f86 false [⟨false, .int⟩]), CutOk tendrilref06_Check_Λ p := cutsOk (l := tendrilref06_Check_C) (n := 1) (by kernel_rfl) fun
  | 0, _ => tendrilref06_Check_d10
  | k + 1, h => absurd h (by omega)
set_option maxHeartbeats 0 in
set_option maxRecDepth 5000000 in
theorem tendrilref06_Check_z10 (vs : List SV) (bs : List Blk) (q : Option (Int)) (h : tendrilref06_Check_P10v0 0 vs bs = some q) : q = none := by
  unfold tendrilref06_Check_P10v0 at h; split at h
  · have h := Option.some.inj h; rw [← h]; first | rfl | (unfold tendrilref06_Check_L10; rfl)
  · cases h
theorem tendrilref06_Check_Λ0 (L : Nat) (vs : List SV) (bs : List Blk) : tendrilref06_Check_Λ 0 L vs bs = none := by
  unfold tendrilref06_Check_Λ
  split
  · unfold tendrilref06_Check_P10
    split
    · rename_i q hq; exact tendrilref06_Check_z10 _ _ q hq
    rfl
  rfl
set_option maxRecDepth 5000000 in
theorem tendrilref06_Check_run (K : Nat) (x : Tup [⟨true, (.pair .int (.sl .int))⟩]) : (pxFn Tryz.prog (lkΓ []) [(10, [1, 26, 27, 28])] Tryz.f86 (bodyOf Tryz.f86) false [⟨false, .int⟩] (encTup [⟨true, (.pair .int (.sl .int))⟩] x)).run (tendrilref06_Check_Λ K) = tendrilref06_Check_K K x := by kernel_rfl
set_option maxRecDepth 5000000 in
theorem ask_Do_run (x : Tup [⟨true, (.pair .int (.pair .int (.pair .int (.pair .int .int))))⟩, ⟨true, (.pair (.sl .int) (.pair (.sl .int) (.pair (.pair (.pair (.sl .int) (.pair (.sl .int) (.pair (.sl .int) (.sl .int)))) (.pair (.pair (.sl .int) (.pair (.sl .int) (.pair (.sl .int) (.sl .int)))) (.pair (.sl .int) (.pair (.sl .int) (.pair (.sl .int) (.sl .int)))))) (.pair .int (.sl .int)))))⟩, ⟨false, .int⟩, ⟨true, (.pair .int (.pair .int (.pair .int (.pair .int (.pair .int .int)))))⟩]) : (pxFn Tryz.prog (lkΓ [(13, ask_Waits_S), (15, shape_Check_S), (16, ask_words_S), (17, ask_touch_S), (18, ask_latches_S), (19, ask_records_S)]) [] Tryz.f7 (bodyOf Tryz.f7) false [⟨true, (.pair (.sl .int) (.pair (.sl .int) (.pair (.pair (.pair (.sl .int) (.pair (.sl .int) (.pair (.sl .int) (.sl .int)))) (.pair (.pair (.sl .int) (.pair (.sl .int) (.pair (.sl .int) (.sl .int)))) (.pair (.sl .int) (.pair (.sl .int) (.pair (.sl .int) (.sl .int)))))) (.pair .int (.sl .int)))))⟩, ⟨false, .int⟩, ⟨false, (.sl (.pair .int (.pair .int (.pair .int (.pair .int (.pair .int (.pair .int (.pair .int .bool))))))))⟩, ⟨false, .int⟩] (encTup [⟨true, (.pair .int (.pair .int (.pair .int (.pair .int .int))))⟩, ⟨true, (.pair (.sl .int) (.pair (.sl .int) (.pair (.pair (.pair (.sl .int) (.pair (.sl .int) (.pair (.sl .int) (.sl .int)))) (.pair (.pair (.sl .int) (.pair (.sl .int) (.pair (.sl .int) (.sl .int)))) (.pair (.sl .int) (.pair (.sl .int) (.pair (.sl .int) (.sl .int)))))) (.pair .int (.sl .int)))))⟩, ⟨false, .int⟩, ⟨true, (.pair .int (.pair .int (.pair .int (.pair .int (.pair .int .int)))))⟩] x)).run (fun _ _ _ => none) = ask_Do x := by kernel_rfl
theorem ask_Do_cuts : ∀ p ∈ cuts Tryz.prog (lkΓ [(13, ask_Waits_S), (15, shape_Check_S), (16, ask_words_S), (17, ask_touch_S), (18, ask_latches_S), (19, ask_records_S)]) Tryz.f7.ntmps [] (bodyOf Tryz.f7) (κ0 Tryz.prog Tryz.f7 false [⟨true, (.pair (.sl .int) (.pair (.sl .int) (.pair (.pair (.pair (.sl .int) (.pair (.sl .int) (.pair (.sl .int) (.sl .int)))) (.pair (.pair (.sl .int) (.pair (.sl .int) (.pair (.sl .int) (.sl .int)))) (.pair (.sl .int) (.pair (.sl .int) (.pair (.sl .int) (.sl .int)))))) (.pair .int (.sl .int)))))⟩, ⟨false, .int⟩, ⟨false, (.sl (.pair .int (.pair .int (.pair .int (.pair .int (.pair .int (.pair .int (.pair .int .bool))))))))⟩, ⟨false, .int⟩]), CutOk (fun _ _ _ _ => none) p := cutsNil (by kernel_rfl)
set_option maxRecDepth 5000000 in
theorem arena_Retire_run (x : Tup [⟨true, (.pair (.sl .int) (.pair (.sl .int) (.pair (.pair (.pair (.sl .int) (.pair (.sl .int) (.pair (.sl .int) (.sl .int)))) (.pair (.pair (.sl .int) (.pair (.sl .int) (.pair (.sl .int) (.sl .int)))) (.pair (.sl .int) (.pair (.sl .int) (.pair (.sl .int) (.sl .int)))))) (.pair .int (.sl .int)))))⟩, ⟨false, .int⟩, ⟨false, .int⟩]) : (pxFn Tryz.prog (lkΓ [(79, arena_may_S), (83, pool_Retire_S)]) [] Tryz.f49 (bodyOf Tryz.f49) false [⟨true, (.pair (.sl .int) (.pair (.sl .int) (.pair (.pair (.pair (.sl .int) (.pair (.sl .int) (.pair (.sl .int) (.sl .int)))) (.pair (.pair (.sl .int) (.pair (.sl .int) (.pair (.sl .int) (.sl .int)))) (.pair (.sl .int) (.pair (.sl .int) (.pair (.sl .int) (.sl .int)))))) (.pair .int (.sl .int)))))⟩, ⟨false, .int⟩] (encTup [⟨true, (.pair (.sl .int) (.pair (.sl .int) (.pair (.pair (.pair (.sl .int) (.pair (.sl .int) (.pair (.sl .int) (.sl .int)))) (.pair (.pair (.sl .int) (.pair (.sl .int) (.pair (.sl .int) (.sl .int)))) (.pair (.sl .int) (.pair (.sl .int) (.pair (.sl .int) (.sl .int)))))) (.pair .int (.sl .int)))))⟩, ⟨false, .int⟩, ⟨false, .int⟩] x)).run (fun _ _ _ => none) = arena_Retire x := by kernel_rfl
theorem arena_Retire_cuts : ∀ p ∈ cuts Tryz.prog (lkΓ [(79, arena_may_S), (83, pool_Retire_S)]) Tryz.f49.ntmps [] (bodyOf Tryz.f49) (κ0 Tryz.prog Tryz.f49 false [⟨true, (.pair (.sl .int) (.pair (.sl .int) (.pair (.pair (.pair (.sl .int) (.pair (.sl .int) (.pair (.sl .int) (.sl .int)))) (.pair (.pair (.sl .int) (.pair (.sl .int) (.pair (.sl .int) (.sl .int)))) (.pair (.sl .int) (.pair (.sl .int) (.pair (.sl .int) (.sl .int)))))) (.pair .int (.sl .int)))))⟩, ⟨false, .int⟩]), CutOk (fun _ _ _ _ => none) p := cutsNil (by kernel_rfl)
set_option maxRecDepth 5000000 in
theorem ask_with_run (x : Tup [⟨true, (.pair (.sl .int) (.pair (.sl .int) (.pair (.pair (.pair (.sl .int) (.pair (.sl .int) (.pair (.sl .int) (.sl .int)))) (.pair (.pair (.sl .int) (.pair (.sl .int) (.pair (.sl .int) (.sl .int)))) (.pair (.sl .int) (.pair (.sl .int) (.pair (.sl .int) (.sl .int)))))) (.pair .int (.sl .int)))))⟩, ⟨false, .int⟩, ⟨false, .int⟩]) : (pxFn Tryz.prog (lkΓ [(78, slices_Clone_S)]) [] Tryz.f45 (bodyOf Tryz.f45) false [⟨true, (.pair (.sl .int) (.pair (.sl .int) (.pair (.pair (.pair (.sl .int) (.pair (.sl .int) (.pair (.sl .int) (.sl .int)))) (.pair (.pair (.sl .int) (.pair (.sl .int) (.pair (.sl .int) (.sl .int)))) (.pair (.sl .int) (.pair (.sl .int) (.pair (.sl .int) (.sl .int)))))) (.pair .int (.sl .int)))))⟩] (encTup [⟨true, (.pair (.sl .int) (.pair (.sl .int) (.pair (.pair (.pair (.sl .int) (.pair (.sl .int) (.pair (.sl .int) (.sl .int)))) (.pair (.pair (.sl .int) (.pair (.sl .int) (.pair (.sl .int) (.sl .int)))) (.pair (.sl .int) (.pair (.sl .int) (.pair (.sl .int) (.sl .int)))))) (.pair .int (.sl .int)))))⟩, ⟨false, .int⟩, ⟨false, .int⟩] x)).run (fun _ _ _ => none) = ask_with x := by kernel_rfl
theorem ask_with_cuts : ∀ p ∈ cuts Tryz.prog (lkΓ [(78, slices_Clone_S)]) Tryz.f45.ntmps [] (bodyOf Tryz.f45) (κ0 Tryz.prog Tryz.f45 false [⟨true, (.pair (.sl .int) (.pair (.sl .int) (.pair (.pair (.pair (.sl .int) (.pair (.sl .int) (.pair (.sl .int) (.sl .int)))) (.pair (.pair (.sl .int) (.pair (.sl .int) (.pair (.sl .int) (.sl .int)))) (.pair (.sl .int) (.pair (.sl .int) (.pair (.sl .int) (.sl .int)))))) (.pair .int (.sl .int)))))⟩]), CutOk (fun _ _ _ _ => none) p := cutsNil (by kernel_rfl)
set_option maxRecDepth 5000000 in
theorem arena_may_run (x : Tup [⟨true, (.pair (.sl .int) (.pair (.sl .int) (.pair (.pair (.pair (.sl .int) (.pair (.sl .int) (.pair (.sl .int) (.sl .int)))) (.pair (.pair (.sl .int) (.pair (.sl .int) (.pair (.sl .int) (.sl .int)))) (.pair (.sl .int) (.pair (.sl .int) (.pair (.sl .int) (.sl .int)))))) (.pair .int (.sl .int)))))⟩, ⟨false, .int⟩]) : (pxFn Tryz.prog (lkΓ [(33, arena_Check_S)]) [] Tryz.f79 (bodyOf Tryz.f79) false [⟨false, .bool⟩] (encTup [⟨true, (.pair (.sl .int) (.pair (.sl .int) (.pair (.pair (.pair (.sl .int) (.pair (.sl .int) (.pair (.sl .int) (.sl .int)))) (.pair (.pair (.sl .int) (.pair (.sl .int) (.pair (.sl .int) (.sl .int)))) (.pair (.sl .int) (.pair (.sl .int) (.pair (.sl .int) (.sl .int)))))) (.pair .int (.sl .int)))))⟩, ⟨false, .int⟩] x)).run (fun _ _ _ => none) = arena_may x := by kernel_rfl
theorem arena_may_cuts : ∀ p ∈ cuts Tryz.prog (lkΓ [(33, arena_Check_S)]) Tryz.f79.ntmps [] (bodyOf Tryz.f79) (κ0 Tryz.prog Tryz.f79 false [⟨false, .bool⟩]), CutOk (fun _ _ _ _ => none) p := cutsNil (by kernel_rfl)
set_option maxRecDepth 5000000 in
theorem tendrilref14_Put_run (x : Tup [⟨true, (.pair .int (.pair .int (.pair .int (.pair .int .int))))⟩, ⟨false, (.sl .int)⟩, ⟨false, .int⟩, ⟨false, .int⟩, ⟨false, .int⟩, ⟨false, .int⟩]) : (pxFn Tryz.prog (lkΓ [(61, tendrilref02_Store_S), (91, tendrilref14_at_S)]) [] Tryz.f62 (bodyOf Tryz.f62) true [⟨false, (.sl .int)⟩, ⟨false, .int⟩] (encTup [⟨true, (.pair .int (.pair .int (.pair .int (.pair .int .int))))⟩, ⟨false, (.sl .int)⟩, ⟨false, .int⟩, ⟨false, .int⟩, ⟨false, .int⟩, ⟨false, .int⟩] x)).run (fun _ _ _ => none) = tendrilref14_Put x := by kernel_rfl
theorem tendrilref14_Put_cuts : ∀ p ∈ cuts Tryz.prog (lkΓ [(61, tendrilref02_Store_S), (91, tendrilref14_at_S)]) Tryz.f62.ntmps [] (bodyOf Tryz.f62) (κ0 Tryz.prog Tryz.f62 true [⟨false, (.sl .int)⟩, ⟨false, .int⟩]), CutOk (fun _ _ _ _ => none) p := cutsNil (by kernel_rfl)
set_option maxRecDepth 5000000 in
theorem tendrilref14_Field_run (x : Tup [⟨true, (.pair .int (.pair .int (.pair .int (.pair .int .int))))⟩, ⟨false, (.sl .int)⟩, ⟨false, .int⟩, ⟨false, .int⟩, ⟨false, .int⟩]) : (pxFn Tryz.prog (lkΓ [(91, tendrilref14_at_S)]) [] Tryz.f60 (bodyOf Tryz.f60) false [⟨false, .int⟩, ⟨false, .int⟩] (encTup [⟨true, (.pair .int (.pair .int (.pair .int (.pair .int .int))))⟩, ⟨false, (.sl .int)⟩, ⟨false, .int⟩, ⟨false, .int⟩, ⟨false, .int⟩] x)).run (fun _ _ _ => none) = tendrilref14_Field x := by kernel_rfl
theorem tendrilref14_Field_cuts : ∀ p ∈ cuts Tryz.prog (lkΓ [(91, tendrilref14_at_S)]) Tryz.f60.ntmps [] (bodyOf Tryz.f60) (κ0 Tryz.prog Tryz.f60 false [⟨false, .int⟩, ⟨false, .int⟩]), CutOk (fun _ _ _ _ => none) p := cutsNil (by kernel_rfl)
set_option maxRecDepth 5000000 in
theorem tendrilref06_Pin_run (x : Tup [⟨true, (.pair .int (.sl .int))⟩, ⟨false, .int⟩]) : (pxFn Tryz.prog (lkΓ [(6, tendrilref02_Copy_S), (86, tendrilref06_Check_S)]) [] Tryz.f88 (bodyOf Tryz.f88) true [⟨true, (.pair .int (.sl .int))⟩, ⟨false, .int⟩] (encTup [⟨true, (.pair .int (.sl .int))⟩, ⟨false, .int⟩] x)).run (fun _ _ _ => none) = tendrilref06_Pin x := by kernel_rfl
theorem tendrilref06_Pin_cuts : ∀ p ∈ cuts Tryz.prog (lkΓ [(6, tendrilref02_Copy_S), (86, tendrilref06_Check_S)]) Tryz.f88.ntmps [] (bodyOf Tryz.f88) (κ0 Tryz.prog Tryz.f88 true [⟨true, (.pair .int (.sl .int))⟩, ⟨false, .int⟩]), CutOk (fun _ _ _ _ => none) p := cutsNil (by kernel_rfl)
set_option maxRecDepth 5000000 in
theorem place_Size_run (x : Tup [⟨true, (.pair .int (.pair .int (.pair .int (.pair .int .int))))⟩]) : (pxFn Tryz.prog (lkΓ [(32, place_Check_S), (74, place_kinds_S)]) [] Tryz.f34 (bodyOf Tryz.f34) false [⟨false, .int⟩] (encTup [⟨true, (.pair .int (.pair .int (.pair .int (.pair .int .int))))⟩] x)).run (fun _ _ _ => none) = place_Size x := by kernel_rfl
theorem place_Size_cuts : ∀ p ∈ cuts Tryz.prog (lkΓ [(32, place_Check_S), (74, place_kinds_S)]) Tryz.f34.ntmps [] (bodyOf Tryz.f34) (κ0 Tryz.prog Tryz.f34 false [⟨false, .int⟩]), CutOk (fun _ _ _ _ => none) p := cutsNil (by kernel_rfl)
set_option maxRecDepth 5000000 in
theorem era_with_run (x : Tup [⟨true, (.pair .int (.sl .int))⟩, ⟨false, .int⟩, ⟨false, .int⟩]) : (pxFn Tryz.prog (lkΓ [(78, slices_Clone_S)]) [] Tryz.f99 (bodyOf Tryz.f99) true [⟨true, (.pair .int (.sl .int))⟩] (encTup [⟨true, (.pair .int (.sl .int))⟩, ⟨false, .int⟩, ⟨false, .int⟩] x)).run (fun _ _ _ => none) = era_with x := by kernel_rfl
theorem era_with_cuts : ∀ p ∈ cuts Tryz.prog (lkΓ [(78, slices_Clone_S)]) Tryz.f99.ntmps [] (bodyOf Tryz.f99) (κ0 Tryz.prog Tryz.f99 true [⟨true, (.pair .int (.sl .int))⟩]), CutOk (fun _ _ _ _ => none) p := cutsNil (by kernel_rfl)
set_option maxRecDepth 5000000 in
theorem latch_Try_run (x : Tup [⟨false, .int⟩]) : (pxFn Tryz.prog (lkΓ [(31, latch_Held_S), (37, latch_Check_S)]) [] Tryz.f44 (bodyOf Tryz.f44) false [⟨false, .int⟩, ⟨false, .bool⟩] (encTup [⟨false, .int⟩] x)).run (fun _ _ _ => none) = latch_Try x := by kernel_rfl
theorem latch_Try_cuts : ∀ p ∈ cuts Tryz.prog (lkΓ [(31, latch_Held_S), (37, latch_Check_S)]) Tryz.f44.ntmps [] (bodyOf Tryz.f44) (κ0 Tryz.prog Tryz.f44 false [⟨false, .int⟩, ⟨false, .bool⟩]), CutOk (fun _ _ _ _ => none) p := cutsNil (by kernel_rfl)
set_option maxRecDepth 5000000 in
theorem mem_Load_run (x : Tup [⟨false, (.sl .int)⟩, ⟨false, .int⟩]) : (pxFn Tryz.prog (lkΓ [(77, mem_in_S)]) [] Tryz.f39 (bodyOf Tryz.f39) false [⟨false, .int⟩, ⟨false, .int⟩] (encTup [⟨false, (.sl .int)⟩, ⟨false, .int⟩] x)).run (fun _ _ _ => none) = mem_Load x := by kernel_rfl
theorem mem_Load_cuts : ∀ p ∈ cuts Tryz.prog (lkΓ [(77, mem_in_S)]) Tryz.f39.ntmps [] (bodyOf Tryz.f39) (κ0 Tryz.prog Tryz.f39 false [⟨false, .int⟩, ⟨false, .int⟩]), CutOk (fun _ _ _ _ => none) p := cutsNil (by kernel_rfl)
set_option maxRecDepth 5000000 in
theorem tendrilref08_Held_run (x : Tup [⟨false, .int⟩]) : (pxFn Tryz.prog (lkΓ [(87, tendrilref08_Check_S)]) [] Tryz.f55 (bodyOf Tryz.f55) false [⟨false, .bool⟩] (encTup [⟨false, .int⟩] x)).run (fun _ _ _ => none) = tendrilref08_Held x := by kernel_rfl
theorem tendrilref08_Held_cuts : ∀ p ∈ cuts Tryz.prog (lkΓ [(87, tendrilref08_Check_S)]) Tryz.f55.ntmps [] (bodyOf Tryz.f55) (κ0 Tryz.prog Tryz.f55 false [⟨false, .bool⟩]), CutOk (fun _ _ _ _ => none) p := cutsNil (by kernel_rfl)
set_option maxRecDepth 5000000 in
theorem mem_in_run (x : Tup [⟨false, (.sl .int)⟩, ⟨false, .int⟩]) : (pxFn Tryz.prog (lkΓ []) [] Tryz.f77 (bodyOf Tryz.f77) false [⟨false, .bool⟩] (encTup [⟨false, (.sl .int)⟩, ⟨false, .int⟩] x)).run (fun _ _ _ => none) = mem_in x := by kernel_rfl
theorem mem_in_cuts : ∀ p ∈ cuts Tryz.prog (lkΓ []) Tryz.f77.ntmps [] (bodyOf Tryz.f77) (κ0 Tryz.prog Tryz.f77 false [⟨false, .bool⟩]), CutOk (fun _ _ _ _ => none) p := cutsNil (by kernel_rfl)
end Go.Proofs.YtcoiboghdmmdcadGreatFn
