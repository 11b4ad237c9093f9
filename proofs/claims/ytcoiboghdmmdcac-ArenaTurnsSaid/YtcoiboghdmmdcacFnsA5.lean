/- What the interpreter of code computes of these functions, part 5; no condition. -/
import Derived.Test.YtcoiboghdmmdcacProg
import Derived.KernelRfl
import Derived.Test.YtcoiboghdmmdcacPx25
import Derived.Test.YtcoiboghdmmdcacFnsD
set_option linter.unusedVariables false
set_option linter.unusedSimpArgs false
namespace Go.Proofs.YtcoiboghdmmdcacFn
open Go Go.RowKit Go.Proofs.YtcoiboghdmmdcacPx
set_option maxHeartbeats 0 in
set_option maxRecDepth 5000000 in
def tendrilref05_Check_P14v0 (k : Nat) (vs : List SV) (bs : List Blk) : Option (Option (Int)) := match vs, bs with
  | [.val (.one (.ptr 0 0)), .val (.one (.int .i64 p0)), .val (.one (.int .i64 p1)), .val (.one (.int .i64 p2))], [.box [(.sl .int p3), (.sl .int p4), (.sl .int p5), (.sl .int p6)]] => some (tendrilref05_Check_L14 k p0 p1 p2 p3 p4 p5 p6)
  | _, _ => none
set_option maxHeartbeats 0 in
set_option maxRecDepth 5000000 in
def tendrilref05_Check_P26v0 (k : Nat) (vs : List SV) (bs : List Blk) : Option (Option (Int)) := match vs, bs with
  | [.val (.one (.ptr 0 0)), .val (.one (.int .i64 p0)), .val (.one (.int .i64 p1)), .val (.one (.int .i64 p2)), .val (.one (.int .i64 p3)), .val (.one (.int .i64 p4)), .val (.one (.sl .int p5)), .val (.one (.int .i64 p6)), .val (.one (.int .i64 p7))], [.box [(.sl .int p8), (.sl .int p9), (.sl .int p10), (.sl .int p11)]] => some (tendrilref05_Check_L26 k p0 p1 p2 p3 p4 p5 p6 p7 p8 p9 p10 p11)
  | _, _ => none
def tendrilref05_Check_P14 (k : Nat) (vs : List SV) (bs : List Blk) : Option (Int) := match tendrilref05_Check_P14v0 k vs bs with | some r => r | none => none
def tendrilref05_Check_P26 (k : Nat) (vs : List SV) (bs : List Blk) : Option (Int) := match tendrilref05_Check_P26v0 k vs bs with | some r => r | none => none
def tendrilref05_Check_Λ (k L : Nat) (vs : List SV) (bs : List Blk) : Option (Int) := match Nat.beq L 14 with | true => tendrilref05_Check_P14 k vs bs | false => match Nat.beq L 26 with | true => tendrilref05_Check_P26 k vs bs | false => none
noncomputable def tendrilref05_Check_C : List (Cut (Tup [⟨false, .int⟩])) := cuts Try.prog (lkΓ []) Try.f44.ntmps [(26, [1, 4, 5, 6, 32, 33, 83, 84, 85]), (14, [1, 4, 32, 33])] (bodyOf Try.f44) (κ0 Try.prog Try.f44 false [⟨false, .int⟩])
set_option maxRecDepth 5000000 in
theorem tendrilref05_Check_c14 (k : Nat) (p0 : Int) (p1 : Int) (p2 : Int) (p3 : List Int) (p4 : List Int) (p5 : List Int) (p6 : List Int) : ((nthC tendrilref05_Check_C 0).g (mkSt [1, 4, 32, 33] [.val (.one (.ptr 0 0)), .val (.one (.int .i64 p0)), .val (.one (.int .i64 p1)), .val (.one (.int .i64 p2))] [.box [(.sl .int p3), (.sl .int p4), (.sl .int p5), (.sl .int p6)]])).run (tendrilref05_Check_Λ k) = tendrilref05_Check_L14 (k + 1) p0 p1 p2 p3 p4 p5 p6 := by kernel_rfl
set_option maxHeartbeats 0 in
set_option maxRecDepth 5000000 in
theorem tendrilref05_Check_e14 (k : Nat) (vs : List SV) (bs : List Blk) (r : Int) (h : tendrilref05_Check_P14v0 (k + 1) vs bs = some (some r)) : ((nthC tendrilref05_Check_C 0).g (mkSt [1, 4, 32, 33] vs bs)).run (tendrilref05_Check_Λ k) = some r := by
  unfold tendrilref05_Check_P14v0 at h
  split at h
  · exact (tendrilref05_Check_c14 k _ _ _ _ _ _ _).trans (Option.some.inj h)
  · cases h
set_option maxRecDepth 5000000 in
theorem tendrilref05_Check_c26 (k : Nat) (p0 : Int) (p1 : Int) (p2 : Int) (p3 : Int) (p4 : Int) (p5 : List Int) (p6 : Int) (p7 : Int) (p8 : List Int) (p9 : List Int) (p10 : List Int) (p11 : List Int) : ((nthC tendrilref05_Check_C 1).g (mkSt [1, 4, 5, 6, 32, 33, 83, 84, 85] [.val (.one (.ptr 0 0)), .val (.one (.int .i64 p0)), .val (.one (.int .i64 p1)), .val (.one (.int .i64 p2)), .val (.one (.int .i64 p3)), .val (.one (.int .i64 p4)), .val (.one (.sl .int p5)), .val (.one (.int .i64 p6)), .val (.one (.int .i64 p7))] [.box [(.sl .int p8), (.sl .int p9), (.sl .int p10), (.sl .int p11)]])).run (tendrilref05_Check_Λ k) = tendrilref05_Check_L26 (k + 1) p0 p1 p2 p3 p4 p5 p6 p7 p8 p9 p10 p11 := by kernel_rfl
set_option maxHeartbeats 0 in
set_option maxRecDepth 5000000 in
theorem tendrilref05_Check_e26 (k : Nat) (vs : List SV) (bs : List Blk) (r : Int) (h : tendrilref05_Check_P26v0 (k + 1) vs bs = some (some r)) : ((nthC tendrilref05_Check_C 1).g (mkSt [1, 4, 5, 6, 32, 33, 83, 84, 85] vs bs)).run (tendrilref05_Check_Λ k) = some r := by
  unfold tendrilref05_Check_P26v0 at h
  split at h
  · exact (tendrilref05_Check_c26 k _ _ _ _ _ _ _ _ _ _ _ _).trans (Option.some.inj h)
  · cases h
theorem tendrilref05_Check_d14 : CutOk tendrilref05_Check_Λ (nthC tendrilref05_Check_C 0) := by
  refine cutOk_of (L := 14) (live := [1, 4, 32, 33]) (by kernel_rfl) (by kernel_rfl) fun k vs bs r h => ?_
  change tendrilref05_Check_P14 (k + 1) vs bs = some r at h
  unfold tendrilref05_Check_P14 at h
  split at h
  · rename_i q hq
    exact tendrilref05_Check_e14 k vs bs r (hq.trans (congrArg some h))
  cases h
theorem tendrilref05_Check_d26 : CutOk tendrilref05_Check_Λ (nthC tendrilref05_Check_C 1) := by
  refine cutOk_of (L := 26) (live := [1, 4, 5, 6, 32, 33, 83, 84, 85]) (by kernel_rfl) (by kernel_rfl) fun k vs bs r h => ?_
  change tendrilref05_Check_P26 (k + 1) vs bs = some r at h
  unfold tendrilref05_Check_P26 at h
  split at h
  · rename_i q hq
    exact tendrilref05_Check_e26 k vs bs r (hq.trans (congrArg some h))
  cases h
theorem tendrilref05_Check_cuts : ∀ p ∈ cuts Try.prog (lkΓ []) Try.f44.ntmps [(26, [1, 4, 5, 6, 32, 33, 83, 84, 85]), (14, [1, 4, 32, 33])] (bodyOf Try.f44) (κ0 Try.prog Try.f44 false [⟨false, .int⟩]), CutOk tendrilref05_Check_Λ p := cutsOk (l := tendrilref05_Check_C) (n := 2) (by kernel_rfl) fun
  | 0, _ => tendrilref05_Check_d14
  | 1, _ => tendrilref05_Check_d26
  | k + 2, h => absurd h (by omega)
set_option maxHeartbeats 0 in
set_option maxRecDepth 5000000 in
theorem tendrilref05_Check_z14 (vs : List SV) (bs : List Blk) (q : Option (Int)) (h : tendrilref05_Check_P14v0 0 vs bs = some q) : q = none := by
  unfold tendrilref05_Check_P14v0 at h; split at h
  · have h := Option.some.inj h; rw [← h]; first | rfl | (unfold tendrilref05_Check_L14; rfl)
  · cases h
set_option maxHeartbeats 0 in
set_option maxRecDepth 5000000 in
theorem tendrilref05_Check_z26 (vs : List SV) (bs : List Blk) (q : Option (Int)) (h : tendrilref05_Check_P26v0 0 vs bs = some q) : q = none := by
  unfold tendrilref05_Check_P26v0 at h; split at h
  · have h := Option.some.inj h; rw [← h]; first | rfl | (unfold tendrilref05_Check_L26; rfl)
  · cases h
theorem tendrilref05_Check_Λ0 (L : Nat) (vs : List SV) (bs : List Blk) : tendrilref05_Check_Λ 0 L vs bs = none := by
  unfold tendrilref05_Check_Λ
  split
  · unfold tendrilref05_Check_P14
    split
    · rename_i q hq; exact tendrilref05_Check_z14 _ _ q hq
    rfl
  split
  · unfold tendrilref05_Check_P26
    split
    · rename_i q hq; exact tendrilref05_Check_z26 _ _ q hq
    rfl
  rfl
set_option maxRecDepth 5000000 in
theorem tendrilref05_Check_run (K : Nat) (x : Tup [⟨true, (.pair (.sl .int) (.pair (.sl .int) (.pair (.sl .int) (.sl .int))))⟩]) : (pxFn Try.prog (lkΓ []) [(26, [1, 4, 5, 6, 32, 33, 83, 84, 85]), (14, [1, 4, 32, 33])] Try.f44 (bodyOf Try.f44) false [⟨false, .int⟩] (encTup [⟨true, (.pair (.sl .int) (.pair (.sl .int) (.pair (.sl .int) (.sl .int))))⟩] x)).run (tendrilref05_Check_Λ K) = tendrilref05_Check_K K x := by kernel_rfl
set_option maxHeartbeats 0 in
set_option maxRecDepth 5000000 in
def pool_Check_P14v0 (k : Nat) (vs : List SV) (bs : List Blk) : Option (Option (Int)) := match vs, bs with
  | [.val (.one (.ptr 0 0)), .val (.one (.int .i64 p0)), .val (.one (.row 1)), .val (.one (.sl .int p1)), .val (.one (.int .i64 p2)), .val (.one (.int .i64 p3))], [.box [(.sl .int p4), (.sl .int p5), (.sl .int p6), (.sl .int p7)], .row .bool p8] => some (pool_Check_L14 k p0 p1 p2 p3 p4 p5 p6 p7 p8)
  | _, _ => none
set_option maxHeartbeats 0 in
set_option maxRecDepth 5000000 in
def pool_Check_P28v0 (k : Nat) (vs : List SV) (bs : List Blk) : Option (Option (Int)) := match vs, bs with
  | [.val (.one (.int .i64 p0)), .val (.one (.row 0)), .val (.one (.sl .int p1)), .val (.one (.int .i64 p2)), .val (.one (.int .i64 p3))], [.row .bool p4] => some (pool_Check_L28 k p0 p1 p2 p3 p4)
  | _, _ => none
def pool_Check_P14 (k : Nat) (vs : List SV) (bs : List Blk) : Option (Int) := match pool_Check_P14v0 k vs bs with | some r => r | none => none
def pool_Check_P28 (k : Nat) (vs : List SV) (bs : List Blk) : Option (Int) := match pool_Check_P28v0 k vs bs with | some r => r | none => none
def pool_Check_Λ (k L : Nat) (vs : List SV) (bs : List Blk) : Option (Int) := match Nat.beq L 14 with | true => pool_Check_P14 k vs bs | false => match Nat.beq L 28 with | true => pool_Check_P28 k vs bs | false => none
noncomputable def pool_Check_C : List (Cut (Tup [⟨false, .int⟩])) := cuts Try.prog (lkΓ [(64, slices_Contains_S)]) Try.f42.ntmps [(28, [3, 4, 83, 84, 85]), (14, [1, 3, 4, 35, 36, 37])] (bodyOf Try.f42) (κ0 Try.prog Try.f42 false [⟨false, .int⟩])
set_option maxRecDepth 5000000 in
theorem pool_Check_c14 (k : Nat) (p0 : Int) (p1 : List Int) (p2 : Int) (p3 : Int) (p4 : List Int) (p5 : List Int) (p6 : List Int) (p7 : List Int) (p8 : List Bool) : ((nthC pool_Check_C 0).g (mkSt [1, 3, 4, 35, 36, 37] [.val (.one (.ptr 0 0)), .val (.one (.int .i64 p0)), .val (.one (.row 1)), .val (.one (.sl .int p1)), .val (.one (.int .i64 p2)), .val (.one (.int .i64 p3))] [.box [(.sl .int p4), (.sl .int p5), (.sl .int p6), (.sl .int p7)], .row .bool p8])).run (pool_Check_Λ k) = pool_Check_L14 (k + 1) p0 p1 p2 p3 p4 p5 p6 p7 p8 := by kernel_rfl
set_option maxHeartbeats 0 in
set_option maxRecDepth 5000000 in
theorem pool_Check_e14 (k : Nat) (vs : List SV) (bs : List Blk) (r : Int) (h : pool_Check_P14v0 (k + 1) vs bs = some (some r)) : ((nthC pool_Check_C 0).g (mkSt [1, 3, 4, 35, 36, 37] vs bs)).run (pool_Check_Λ k) = some r := by
  unfold pool_Check_P14v0 at h
  split at h
  · exact (pool_Check_c14 k _ _ _ _ _ _ _ _ _).trans (Option.some.inj h)
  · cases h
set_option maxRecDepth 5000000 in
theorem pool_Check_c28 (k : Nat) (p0 : Int) (p1 : List Int) (p2 : Int) (p3 : Int) (p4 : List Bool) : ((nthC pool_Check_C 1).g (mkSt [3, 4, 83, 84, 85] [.val (.one (.int .i64 p0)), .val (.one (.row 0)), .val (.one (.sl .int p1)), .val (.one (.int .i64 p2)), .val (.one (.int .i64 p3))] [.row .bool p4])).run (pool_Check_Λ k) = pool_Check_L28 (k + 1) p0 p1 p2 p3 p4 := by kernel_rfl
set_option maxHeartbeats 0 in
set_option maxRecDepth 5000000 in
theorem pool_Check_e28 (k : Nat) (vs : List SV) (bs : List Blk) (r : Int) (h : pool_Check_P28v0 (k + 1) vs bs = some (some r)) : ((nthC pool_Check_C 1).g (mkSt [3, 4, 83, 84, 85] vs bs)).run (pool_Check_Λ k) = some r := by
  unfold pool_Check_P28v0 at h
  split at h
  · exact (pool_Check_c28 k _ _ _ _ _).trans (Option.some.inj h)
  · cases h
theorem pool_Check_d14 : CutOk pool_Check_Λ (nthC pool_Check_C 0) := by
  refine cutOk_of (L := 14) (live := [1, 3, 4, 35, 36, 37]) (by kernel_rfl) (by kernel_rfl) fun k vs bs r h => ?_
  change pool_Check_P14 (k + 1) vs bs = some r at h
  unfold pool_Check_P14 at h
  split at h
  · rename_i q hq
    exact pool_Check_e14 k vs bs r (hq.trans (congrArg some h))
  cases h
theorem pool_Check_d28 : CutOk pool_Check_Λ (nthC pool_Check_C 1) := by
  refine cutOk_of (L := 28) (live := [3, 4, 83, 84, 85]) (by kernel_rfl) (by kernel_rfl) fun k vs bs r h => ?_
  change pool_Check_P28 (k + 1) vs bs = some r at h
  unfold pool_Check_P28 at h
  split at h
  · rename_i q hq
    exact pool_Check_e28 k vs bs r (hq.trans (congrArg some h))
  cases h
theorem pool_Check_cuts : ∀ p ∈ cuts Try.prog (lkΓ [(64, slices_Contains_S)]) Try.f42.ntmps [(28, [3, 4, 83, 84, 85]), (14, [1, 3, 4, 35, 36, 37])] (bodyOf Try.f42) (κ0 Try.prog Try.f42 false [⟨false, .int⟩]), CutOk pool_Check_Λ p := cutsOk (l := pool_Check_C) (n := 2) (by kernel_rfl) fun
  | 0, _ => pool_Check_d14
  | 1, _ => pool_Check_d28
  | k + 2, h => absurd h (by omega)
set_option maxHeartbeats 0 in
set_option maxRecDepth 5000000 in
theorem pool_Check_z14 (vs : List SV) (bs : List Blk) (q : Option (Int)) (h : pool_Check_P14v0 0 vs bs = some q) : q = none := by
  unfold pool_Check_P14v0 at h; split at h
  · have h := Option.some.inj h; rw [← h]; first | rfl | (unfold pool_Check_L14; rfl)
  · cases h
set_option maxHeartbeats 0 in
set_option maxRecDepth 5000000 in
theorem pool_Check_z28 (vs : List SV) (bs : List Blk) (q : Option (Int)) (h : pool_Check_P28v0 0 vs bs = some q) : q = none := by
  unfold pool_Check_P28v0 at h; split at h
  · have h := Option.some.inj h; rw [← h]; first | rfl | (unfold pool_Check_L28; rfl)
  · cases h
theorem pool_Check_Λ0 (L : Nat) (vs : List SV) (bs : List Blk) : pool_Check_Λ 0 L vs bs = none := by
  unfold pool_Check_Λ
  split
  · unfold pool_Check_P14
    split
    · rename_i q hq; exact pool_Check_z14 _ _ q hq
    rfl
  split
  · unfold pool_Check_P28
    split
    · rename_i q hq; exact pool_Check_z28 _ _ q hq
    rfl
  rfl
set_option maxRecDepth 5000000 in
theorem pool_Check_run (K : Nat) (x : Tup [⟨true, (.pair (.sl .int) (.pair (.sl .int) (.pair (.sl .int) (.sl .int))))⟩]) : (pxFn Try.prog (lkΓ [(64, slices_Contains_S)]) [(28, [3, 4, 83, 84, 85]), (14, [1, 3, 4, 35, 36, 37])] Try.f42 (bodyOf Try.f42) false [⟨false, .int⟩] (encTup [⟨true, (.pair (.sl .int) (.pair (.sl .int) (.pair (.sl .int) (.sl .int))))⟩] x)).run (pool_Check_Λ K) = pool_Check_K K x := by kernel_rfl
set_option maxHeartbeats 0 in
set_option maxRecDepth 5000000 in
def tendrilref07_Few_P6v0 (k : Nat) (vs : List SV) (bs : List Blk) : Option (Option (Bool)) := match vs, bs with
  | [.val (.one (.ptr 0 0)), .val (.agg [(.sl .int p0), (.sl .int p1), (.sl .int p2), (.sl .int p3), (.sl .int p4), (.sl .int p5), (.sl .int p6), (.sl .int p7), (.sl .int p8), (.sl .int p9), (.sl .int p10), (.sl .int p11)]), .val (.one (.int .i64 p12))], [.box [(.sl .int p13), (.sl .int p14), (.sl .int p15), (.sl .int p16), (.sl .int p17), (.sl .int p18), (.sl .int p19), (.sl .int p20), (.sl .int p21), (.sl .int p22), (.sl .int p23), (.sl .int p24), (.sl .int p25), (.sl .int p26), (.int .i64 p27), (.sl .int p28)]] => some (tendrilref07_Few_L6 k p0 p1 p2 p3 p4 p5 p6 p7 p8 p9 p10 p11 p12 p13 p14 p15 p16 p17 p18 p19 p20 p21 p22 p23 p24 p25 p26 p27 p28)
  | _, _ => none
def tendrilref07_Few_P6 (k : Nat) (vs : List SV) (bs : List Blk) : Option (Bool) := match tendrilref07_Few_P6v0 k vs bs with | some r => r | none => none
def tendrilref07_Few_Λ (k L : Nat) (vs : List SV) (bs : List Blk) : Option (Bool) := match Nat.beq L 6 with | true => tendrilref07_Few_P6 k vs bs | false => none
noncomputable def tendrilref07_Few_C : List (Cut (Tup [⟨false, .bool⟩])) := cuts Try.prog (lkΓ [(33, tendrilref05_Few_S)]) Try.f10.ntmps [(6, [1, 6, 7])] (bodyOf Try.f10) (κ0 Try.prog Try.f10 false [⟨false, .bool⟩])
set_option maxRecDepth 5000000 in
theorem tendrilref07_Few_c6 (k : Nat) (p0 : List Int) (p1 : List Int) (p2 : List Int) (p3 : List Int) (p4 : List Int) (p5 : List Int) (p6 : List Int) (p7 : List Int) (p8 : List Int) (p9 : List Int) (p10 : List Int) (p11 : List Int) (p12 : Int) (p13 : List Int) (p14 : List Int) (p15 : List Int) (p16 : List Int) (p17 : List Int) (p18 : List Int) (p19 : List Int) (p20 : List Int) (p21 : List Int) (p22 : List Int) (p23 : List Int) (p24 : List Int) (p25 : List Int) (p26 : List Int) (p27 : Int) (p28 : List Int) : ((nthC tendrilref07_Few_C 0).g (mkSt [1, 6, 7] [.val (.one (.ptr 0 0)), .val (.agg [(.sl .int p0), (.sl .int p1), (.sl .int p2), (.sl .int p3), (.sl .int p4), (.sl .int p5), (.sl .int p6), (.sl .int p7), (.sl .int p8), (.sl .int p9), (.sl .int p10), (.sl .int p11)]), .val (.one (.int .i64 p12))] [.box [(.sl .int p13), (.sl .int p14), (.sl .int p15), (.sl .int p16), (.sl .int p17), (.sl .int p18), (.sl .int p19), (.sl .int p20), (.sl .int p21), (.sl .int p22), (.sl .int p23), (.sl .int p24), (.sl .int p25), (.sl .int p26), (.int .i64 p27), (.sl .int p28)]])).run (tendrilref07_Few_Λ k) = tendrilref07_Few_L6 (k + 1) p0 p1 p2 p3 p4 p5 p6 p7 p8 p9 p10 p11 p12 p13 p14 p15 p16 p17 p18 p19 p20 p21 p22 p23 p24 p25 p26 p27 p28 := by kernel_rfl
set_option maxHeartbeats 0 in
set_option maxRecDepth 5000000 in
theorem tendrilref07_Few_e6 (k : Nat) (vs : List SV) (bs : List Blk) (r : Bool) (h : tendrilref07_Few_P6v0 (k + 1) vs bs = some (some r)) : ((nthC tendrilref07_Few_C 0).g (mkSt [1, 6, 7] vs bs)).run (tendrilref07_Few_Λ k) = some r := by
  unfold tendrilref07_Few_P6v0 at h
  split at h
  · exact (tendrilref07_Few_c6 k _ _ _ _ _ _ _ _ _ _ _ _ _ _ _ _ _ _ _ _ _ _ _ _ _ _ _ _ _).trans (Option.some.inj h)
  · cases h
theorem tendrilref07_Few_d6 : CutOk tendrilref07_Few_Λ (nthC tendrilref07_Few_C 0) := by
  refine cutOk_of (L := 6) (live := [1, 6, 7]) (by kernel_rfl) (by kernel_rfl) fun k vs bs r h => ?_
  change tendrilref07_Few_P6 (k + 1) vs bs = some r at h
  unfold tendrilref07_Few_P6 at h
  split at h
  · rename_i q hq
    exact tendrilref07_Few_e6 k vs bs r (hq.trans (congrArg some h))
  cases h
theorem tendrilref07_Few_cuts : ∀ p ∈ cuts Try.prog (lkΓ [(33, tendrilref05_Few_S)]) Try.f10.ntmps [(6, [1, 6, 7])] (bodyOf Try.f10) (κ0 Try.prog Try.f10 false [⟨false, .bool⟩]), CutOk tendrilref07_Few_Λ p := cutsOk (l := tendrilref07_Few_C) (n := 1) (by kernel_rfl) fun
  | 0, _ => tendrilref07_Few_d6
  | k + 1, h => absurd h (by omega)
set_option maxHeartbeats 0 in
set_option maxRecDepth 5000000 in
theorem tendrilref07_Few_z6 (vs : List SV) (bs : List Blk) (q : Option (Bool)) (h : tendrilref07_Few_P6v0 0 vs bs = some q) : q = none := by
  unfold tendrilref07_Few_P6v0 at h; split at h
  · have h := Option.some.inj h; rw [← h]; first | rfl | (unfold tendrilref07_Few_L6; rfl)
  · cases h
theorem tendrilref07_Few_Λ0 (L : Nat) (vs : List SV) (bs : List Blk) : tendrilref07_Few_Λ 0 L vs bs = none := by
  unfold tendrilref07_Few_Λ
  split
  · unfold tendrilref07_Few_P6
    split
    · rename_i q hq; exact tendrilref07_Few_z6 _ _ q hq
    rfl
  rfl
set_option maxRecDepth 5000000 in
theorem tendrilref07_Few_run (K : Nat) (x : Tup [⟨true, (.pair (.sl .int) (.pair (.sl .int) (.pair (.pair (.pair (.sl .int) (.pair (.sl .int) (.pair (.sl .int) (.sl .int)))) (.pair (.pair (.sl .int) (.pair (.sl .int) (.pair (.sl .int) (.sl .int)))) (.pair (.sl .int) (.pair (.sl .int) (.pair (.sl .int) (.sl .int)))))) (.pair .int (.sl .int)))))⟩]) : (pxFn Try.prog (lkΓ [(33, tendrilref05_Few_S)]) [(6, [1, 6, 7])] Try.f10 (bodyOf Try.f10) false [⟨false, .bool⟩] (encTup [⟨true, (.pair (.sl .int) (.pair (.sl .int) (.pair (.pair (.pair (.sl .int) (.pair (.sl .int) (.pair (.sl .int) (.sl .int)))) (.pair (.pair (.sl .int) (.pair (.sl .int) (.pair (.sl .int) (.sl .int)))) (.pair (.sl .int) (.pair (.sl .int) (.pair (.sl .int) (.sl .int)))))) (.pair .int (.sl .int)))))⟩] x)).run (tendrilref07_Few_Λ K) = tendrilref07_Few_K K x := by kernel_rfl
set_option maxHeartbeats 0 in
set_option maxRecDepth 5000000 in
def tendrilref05_Reclaim_P14v0 (k : Nat) (vs : List SV) (bs : List Blk) : Option (Option ((List Int × List Int × List Int × List Int) × Int)) := match vs, bs with
  | [.val (.one (.int .i64 p0)), .val (.one (.ptr 0 0)), .val (.one (.ptr 1 0)), .val (.one (.ptr 2 0)), .val (.one (.int .i64 p1)), .val (.one (.int .i64 p2)), .val (.one (.int .i64 p3))], [.box [(.sl .int p4), (.sl .int p5), (.sl .int p6), (.sl .int p7)], .box [.nil, .nil, .nil, .nil], .box [(.row 3), (.row 4), (.row 5), (.row 6)], .row .int p8, .row .int p9, .row .int p10, .row .int p11] => some (tendrilref05_Reclaim_L14 k p0 p1 p2 p3 p4 p5 p6 p7 p8 p9 p10 p11)
  | _, _ => none
def tendrilref05_Reclaim_P14 (k : Nat) (vs : List SV) (bs : List Blk) : Option ((List Int × List Int × List Int × List Int) × Int) := match tendrilref05_Reclaim_P14v0 k vs bs with | some r => r | none => none
def tendrilref05_Reclaim_Λ (k L : Nat) (vs : List SV) (bs : List Blk) : Option ((List Int × List Int × List Int × List Int) × Int) := match Nat.beq L 14 with | true => tendrilref05_Reclaim_P14 k vs bs | false => none
noncomputable def tendrilref05_Reclaim_C : List (Cut (Tup [⟨true, (.pair (.sl .int) (.pair (.sl .int) (.pair (.sl .int) (.sl .int))))⟩, ⟨false, .int⟩])) := cuts Try.prog (lkΓ [(44, tendrilref05_Check_S), (69, tendrilref05_Copy_S)]) Try.f59.ntmps [(14, [1, 2, 4, 6, 7, 17, 18])] (bodyOf Try.f59) (κ0 Try.prog Try.f59 true [⟨true, (.pair (.sl .int) (.pair (.sl .int) (.pair (.sl .int) (.sl .int))))⟩, ⟨false, .int⟩])
set_option maxRecDepth 5000000 in
theorem tendrilref05_Reclaim_c14 (k : Nat) (p0 : Int) (p1 : Int) (p2 : Int) (p3 : Int) (p4 : List Int) (p5 : List Int) (p6 : List Int) (p7 : List Int) (p8 : List Int) (p9 : List Int) (p10 : List Int) (p11 : List Int) : ((nthC tendrilref05_Reclaim_C 0).g (mkSt [1, 2, 4, 6, 7, 17, 18] [.val (.one (.int .i64 p0)), .val (.one (.ptr 0 0)), .val (.one (.ptr 1 0)), .val (.one (.ptr 2 0)), .val (.one (.int .i64 p1)), .val (.one (.int .i64 p2)), .val (.one (.int .i64 p3))] [.box [(.sl .int p4), (.sl .int p5), (.sl .int p6), (.sl .int p7)], .box [.nil, .nil, .nil, .nil], .box [(.row 3), (.row 4), (.row 5), (.row 6)], .row .int p8, .row .int p9, .row .int p10, .row .int p11])).run (tendrilref05_Reclaim_Λ k) = tendrilref05_Reclaim_L14 (k + 1) p0 p1 p2 p3 p4 p5 p6 p7 p8 p9 p10 p11 := by kernel_rfl
set_option maxHeartbeats 0 in
set_option maxRecDepth 5000000 in
theorem tendrilref05_Reclaim_e14 (k : Nat) (vs : List SV) (bs : List Blk) (r : ((List Int) × ((List Int) × ((List Int) × (List Int)))) × Int) (h : tendrilref05_Reclaim_P14v0 (k + 1) vs bs = some (some r)) : ((nthC tendrilref05_Reclaim_C 0).g (mkSt [1, 2, 4, 6, 7, 17, 18] vs bs)).run (tendrilref05_Reclaim_Λ k) = some r := by
  unfold tendrilref05_Reclaim_P14v0 at h
  split at h
  · exact (tendrilref05_Reclaim_c14 k _ _ _ _ _ _ _ _ _ _ _ _).trans (Option.some.inj h)
  · cases h
theorem tendrilref05_Reclaim_d14 : CutOk tendrilref05_Reclaim_Λ (nthC tendrilref05_Reclaim_C 0) := by
  refine cutOk_of (L := 14) (live := [1, 2, 4, 6, 7, 17, 18]) (by kernel_rfl) (by kernel_rfl) fun k vs bs r h => ?_
  change tendrilref05_Reclaim_P14 (k + 1) vs bs = some r at h
  unfold tendrilref05_Reclaim_P14 at h
  split at h
  · rename_i q hq
    exact tendrilref05_Reclaim_e14 k vs bs r (hq.trans (congrArg some h))
  cases h
theorem tendrilref05_Reclaim_cuts : ∀ p ∈ cuts Try.prog (lkΓ [(44, tendrilref05_Check_S), (69, tendrilref05_Copy_S)]) Try.f59.ntmps [(14, [1, 2, 4, 6, 7, 17, 18])] (bodyOf Try.f59) (κ0 Try.prog Try.f59 true [⟨true, (.pair (.sl .int) (.pair (.sl .int) (.pair (.sl .int) (.sl .int))))⟩, ⟨false, .int⟩]), CutOk tendrilref05_Reclaim_Λ p := cutsOk (l := tendrilref05_Reclaim_C) (n := 1) (by kernel_rfl) fun
  | 0, _ => tendrilref05_Reclaim_d14
  | k + 1, h => absurd h (by omega)
set_option maxHeartbeats 0 in
set_option maxRecDepth 5000000 in
theorem tendrilref05_Reclaim_z14 (vs : List SV) (bs : List Blk) (q : Option (((List Int) × ((List Int) × ((List Int) × (List Int)))) × Int)) (h : tendrilref05_Reclaim_P14v0 0 vs bs = some q) : q = none := by
  unfold tendrilref05_Reclaim_P14v0 at h; split at h
  · have h := Option.some.inj h; rw [← h]; first | rfl | (unfold tendrilref05_Reclaim_L14; rfl)
  · cases h
theorem tendrilref05_Reclaim_Λ0 (L : Nat) (vs : List SV) (bs : List Blk) : tendrilref05_Reclaim_Λ 0 L vs bs = none := by
  unfold tendrilref05_Reclaim_Λ
  split
  · unfold tendrilref05_Reclaim_P14
    split
    · rename_i q hq; exact tendrilref05_Reclaim_z14 _ _ q hq
    rfl
  rfl
set_option maxRecDepth 5000000 in
theorem tendrilref05_Reclaim_run (K : Nat) (x : Tup [⟨true, (.pair (.sl .int) (.pair (.sl .int) (.pair (.sl .int) (.sl .int))))⟩, ⟨false, .int⟩]) : (pxFn Try.prog (lkΓ [(44, tendrilref05_Check_S), (69, tendrilref05_Copy_S)]) [(14, [1, 2, 4, 6, 7, 17, 18])] Try.f59 (bodyOf Try.f59) true [⟨true, (.pair (.sl .int) (.pair (.sl .int) (.pair (.sl .int) (.sl .int))))⟩, ⟨false, .int⟩] (encTup [⟨true, (.pair (.sl .int) (.pair (.sl .int) (.pair (.sl .int) (.sl .int))))⟩, ⟨false, .int⟩] x)).run (tendrilref05_Reclaim_Λ K) = tendrilref05_Reclaim_K K x := by kernel_rfl
set_option maxHeartbeats 0 in
set_option maxRecDepth 5000000 in
def tendrilref06_Check_P10v0 (k : Nat) (vs : List SV) (bs : List Blk) : Option (Option (Int)) := match vs, bs with
  | [.val (.one (.ptr 0 0)), .val (.one (.sl .int p0)), .val (.one (.int .i64 p1)), .val (.one (.int .i64 p2))], [.box [(.int .i64 p3), (.sl .int p4)]] => some (tendrilref06_Check_L10 k p0 p1 p2 p3 p4)
  | _, _ => none
def tendrilref06_Check_P10 (k : Nat) (vs : List SV) (bs : List Blk) : Option (Int) := match tendrilref06_Check_P10v0 k vs bs with | some r => r | none => none
def tendrilref06_Check_Λ (k L : Nat) (vs : List SV) (bs : List Blk) : Option (Int) := match Nat.beq L 10 with | true => tendrilref06_Check_P10 k vs bs | false => none
noncomputable def tendrilref06_Check_C : List (Cut (Tup [⟨false, .int⟩])) := cuts Try.prog (lkΓ []) Try.f45.ntmps [(10, [1, 26, 27, 28])] (bodyOf Try.f45) (κ0 Try.prog Try.f45 false [⟨false, .int⟩])
set_option maxRecDepth 5000000 in
theorem tendrilref06_Check_c10 (k : Nat) (p0 : List Int) (p1 : Int) (p2 : Int) (p3 : Int) (p4 : List Int) : ((nthC tendrilref06_Check_C 0).g (mkSt [1, 26, 27, 28] [.val (.one (.ptr 0 0)), .val (.one (.sl .int p0)), .val (.one (.int .i64 p1)), .val (.one (.int .i64 p2))] [.box [(.int .i64 p3), (.sl .int p4)]])).run (tendrilref06_Check_Λ k) = tendrilref06_Check_L10 (k + 1) p0 p1 p2 p3 p4 := by kernel_rfl
set_option maxHeartbeats 0 in
set_option maxRecDepth 5000000 in
theorem tendrilref06_Check_e10 (k : Nat) (vs : List SV) (bs : List Blk) (r : Int) (h : tendrilref06_Check_P10v0 (k + 1) vs bs = some (some r)) : ((nthC tendrilref06_Check_C 0).g (mkSt [1, 26, 27, 28] vs bs)).run (tendrilref06_Check_Λ k) = some r := by
  unfold tendrilref06_Check_P10v0 at h
  split at h
  · exact (tendrilref06_Check_c10 k _ _ _ _ _).trans (Option.some.inj h)
  · cases h
theorem tendrilref06_Check_d10 : CutOk tendrilref06_Check_Λ (nthC tendrilref06_Check_C 0) := by
  refine cutOk_of (L := 10) (live := [1, 26, 27, 28]) (by kernel_rfl) (by kernel_rfl) fun k vs bs r h => ?_
  change tendrilref06_Check_P10 (k + 1) vs bs = some r at h
  unfold tendrilref06_Check_P10 at h
  split at h
  · rename_i q hq
    exact tendrilref06_Check_e10 k vs bs r (hq.trans (congrArg some h))
  cases h
theorem tendrilref06_Check_cuts : ∀ p ∈ cuts Try.prog (lkΓ []) Try.f45.ntmps [(10, [1, 26, 27, 28])] (bodyOf Try.f45) (κ0 Try.prog Try.f45 false [⟨false, .int⟩]), CutOk tendrilref06_Check_Λ p := cutsOk (l := tendrilref06_Check_C) (n := 1) (by kernel_rfl) fun
  | 0, _ => tendrilref06_Check_d10
  | k + 1, h => absurd h (by omega)
set_option maxHeartbeats 0 in
set_option maxRecDepth 5000000 in
theorem tendrilref06_Check_z10 (vs : List SV) (bs : List Blk) (q : Option (Int)) (h : tendrilref06_Check_P10v0 0 vs bs = some q) : q = none := by
  unfold tendrilref06_Check_P10v0 at h; split at h
  · have h := Option.some.inj h; rw [← h]; first | rfl | (unfold tendrilref06_Check_L10; rfl)
  · cases h
theorem tendrilref06_Check_Λ0 (L : Nat) (vs : List SV) (bs : List Blk) : tendrilref06_Check_Λ 0 L vs bs = none := by
  unfold tendrilref06_Check_Λ
  split
  · unfold tendrilref06_Check_P10
    split
    · rename_i q hq; exact tendrilref06_Check_z10 _ _ q hq
    rfl
  rfl
set_option maxRecDepth 5000000 in
theorem tendrilref06_Check_run (K : Nat) (x : Tup [⟨true, (.pair .int (.sl .int))⟩]) : (pxFn Try.prog (lkΓ []) [(10, [1, 26, 27, 28])] Try.f45 (bodyOf Try.f45) false [⟨false, .int⟩] (encTup [⟨true, (.pair .int (.sl .int))⟩] x)).run (tendrilref06_Check_Λ K) = tendrilref06_Check_K K x := by kernel_rfl
set_option maxRecDepth 5000000 in
theorem tendrilref07_Take_run (x : Tup [⟨true, (.pair (.sl .int) (.pair (.sl .int) (.pair (.pair (.pair (.sl .int) (.pair (.sl .int) (.pair (.sl .int) (.sl .int)))) (.pair (.pair (.sl .int) (.pair (.sl .int) (.pair (.sl .int) (.sl .int)))) (.pair (.sl .int) (.pair (.sl .int) (.pair (.sl .int) (.sl .int)))))) (.pair .int (.sl .int)))))⟩, ⟨false, .int⟩]) : (pxFn Try.prog (lkΓ [(15, tendrilref07_Check_S), (49, tendrilref07_kind_S), (50, tendrilref05_Take_S)]) [] Try.f20 (bodyOf Try.f20) false [⟨true, (.pair (.sl .int) (.pair (.sl .int) (.pair (.pair (.pair (.sl .int) (.pair (.sl .int) (.pair (.sl .int) (.sl .int)))) (.pair (.pair (.sl .int) (.pair (.sl .int) (.pair (.sl .int) (.sl .int)))) (.pair (.sl .int) (.pair (.sl .int) (.pair (.sl .int) (.sl .int)))))) (.pair .int (.sl .int)))))⟩, ⟨false, .int⟩, ⟨false, .int⟩] (encTup [⟨true, (.pair (.sl .int) (.pair (.sl .int) (.pair (.pair (.pair (.sl .int) (.pair (.sl .int) (.pair (.sl .int) (.sl .int)))) (.pair (.pair (.sl .int) (.pair (.sl .int) (.pair (.sl .int) (.sl .int)))) (.pair (.sl .int) (.pair (.sl .int) (.pair (.sl .int) (.sl .int)))))) (.pair .int (.sl .int)))))⟩, ⟨false, .int⟩] x)).run (fun _ _ _ => none) = tendrilref07_Take x := by kernel_rfl
theorem tendrilref07_Take_cuts : ∀ p ∈ cuts Try.prog (lkΓ [(15, tendrilref07_Check_S), (49, tendrilref07_kind_S), (50, tendrilref05_Take_S)]) Try.f20.ntmps [] (bodyOf Try.f20) (κ0 Try.prog Try.f20 false [⟨true, (.pair (.sl .int) (.pair (.sl .int) (.pair (.pair (.pair (.sl .int) (.pair (.sl .int) (.pair (.sl .int) (.sl .int)))) (.pair (.pair (.sl .int) (.pair (.sl .int) (.pair (.sl .int) (.sl .int)))) (.pair (.sl .int) (.pair (.sl .int) (.pair (.sl .int) (.sl .int)))))) (.pair .int (.sl .int)))))⟩, ⟨false, .int⟩, ⟨false, .int⟩]), CutOk (fun _ _ _ _ => none) p := cutsNil (by kernel_rfl)
set_option maxRecDepth 5000000 in
theorem arena_Pin_run (x : Tup [⟨true, (.pair (.sl .int) (.pair (.sl .int) (.pair (.pair (.pair (.sl .int) (.pair (.sl .int) (.pair (.sl .int) (.sl .int)))) (.pair (.pair (.sl .int) (.pair (.sl .int) (.pair (.sl .int) (.sl .int)))) (.pair (.sl .int) (.pair (.sl .int) (.pair (.sl .int) (.sl .int)))))) (.pair .int (.sl .int)))))⟩, ⟨false, .int⟩]) : (pxFn Try.prog (lkΓ [(46, arena_may_S), (56, era_Pin_S)]) [] Try.f26 (bodyOf Try.f26) false [⟨true, (.pair (.sl .int) (.pair (.sl .int) (.pair (.pair (.pair (.sl .int) (.pair (.sl .int) (.pair (.sl .int) (.sl .int)))) (.pair (.pair (.sl .int) (.pair (.sl .int) (.pair (.sl .int) (.sl .int)))) (.pair (.sl .int) (.pair (.sl .int) (.pair (.sl .int) (.sl .int)))))) (.pair .int (.sl .int)))))⟩, ⟨false, .int⟩] (encTup [⟨true, (.pair (.sl .int) (.pair (.sl .int) (.pair (.pair (.pair (.sl .int) (.pair (.sl .int) (.pair (.sl .int) (.sl .int)))) (.pair (.pair (.sl .int) (.pair (.sl .int) (.pair (.sl .int) (.sl .int)))) (.pair (.sl .int) (.pair (.sl .int) (.pair (.sl .int) (.sl .int)))))) (.pair .int (.sl .int)))))⟩, ⟨false, .int⟩] x)).run (fun _ _ _ => none) = arena_Pin x := by kernel_rfl
theorem arena_Pin_cuts : ∀ p ∈ cuts Try.prog (lkΓ [(46, arena_may_S), (56, era_Pin_S)]) Try.f26.ntmps [] (bodyOf Try.f26) (κ0 Try.prog Try.f26 false [⟨true, (.pair (.sl .int) (.pair (.sl .int) (.pair (.pair (.pair (.sl .int) (.pair (.sl .int) (.pair (.sl .int) (.sl .int)))) (.pair (.pair (.sl .int) (.pair (.sl .int) (.pair (.sl .int) (.sl .int)))) (.pair (.sl .int) (.pair (.sl .int) (.pair (.sl .int) (.sl .int)))))) (.pair .int (.sl .int)))))⟩, ⟨false, .int⟩]), CutOk (fun _ _ _ _ => none) p := cutsNil (by kernel_rfl)
set_option maxRecDepth 5000000 in
theorem tendrilref05_Retire_run (x : Tup [⟨true, (.pair (.sl .int) (.pair (.sl .int) (.pair (.sl .int) (.sl .int))))⟩, ⟨false, .int⟩, ⟨false, .int⟩]) : (pxFn Try.prog (lkΓ [(44, tendrilref05_Check_S), (52, tendrilref01_Unpack_S), (69, tendrilref05_Copy_S)]) [] Try.f51 (bodyOf Try.f51) true [⟨true, (.pair (.sl .int) (.pair (.sl .int) (.pair (.sl .int) (.sl .int))))⟩, ⟨false, .int⟩] (encTup [⟨true, (.pair (.sl .int) (.pair (.sl .int) (.pair (.sl .int) (.sl .int))))⟩, ⟨false, .int⟩, ⟨false, .int⟩] x)).run (fun _ _ _ => none) = tendrilref05_Retire x := by kernel_rfl
theorem tendrilref05_Retire_cuts : ∀ p ∈ cuts Try.prog (lkΓ [(44, tendrilref05_Check_S), (52, tendrilref01_Unpack_S), (69, tendrilref05_Copy_S)]) Try.f51.ntmps [] (bodyOf Try.f51) (κ0 Try.prog Try.f51 true [⟨true, (.pair (.sl .int) (.pair (.sl .int) (.pair (.sl .int) (.sl .int))))⟩, ⟨false, .int⟩]), CutOk (fun _ _ _ _ => none) p := cutsNil (by kernel_rfl)
set_option maxRecDepth 5000000 in
theorem pool_own_run (x : Tup [⟨true, (.pair (.sl .int) (.pair (.sl .int) (.pair (.sl .int) (.sl .int))))⟩]) : (pxFn Try.prog (lkΓ [(71, slices_Clone_S)]) [] Try.f67 (bodyOf Try.f67) true [⟨true, (.pair (.sl .int) (.pair (.sl .int) (.pair (.sl .int) (.sl .int))))⟩] (encTup [⟨true, (.pair (.sl .int) (.pair (.sl .int) (.pair (.sl .int) (.sl .int))))⟩] x)).run (fun _ _ _ => none) = pool_own x := by kernel_rfl
theorem pool_own_cuts : ∀ p ∈ cuts Try.prog (lkΓ [(71, slices_Clone_S)]) Try.f67.ntmps [] (bodyOf Try.f67) (κ0 Try.prog Try.f67 true [⟨true, (.pair (.sl .int) (.pair (.sl .int) (.pair (.sl .int) (.sl .int))))⟩]), CutOk (fun _ _ _ _ => none) p := cutsNil (by kernel_rfl)
set_option maxRecDepth 5000000 in
theorem tendrillaw07_live_run (x : Tup []) : (pxFn Try.prog (lkΓ [(11, arena_New_S), (16, arena_Take_S), (17, arena_Retire_S), (24, arena_Turn_S), (32, tendrillaw07_plain_S)]) [] Try.f9 (bodyOf Try.f9) false [⟨false, .bool⟩] (encTup [] x)).run (fun _ _ _ => none) = tendrillaw07_live x := by kernel_rfl
theorem tendrillaw07_live_cuts : ∀ p ∈ cuts Try.prog (lkΓ [(11, arena_New_S), (16, arena_Take_S), (17, arena_Retire_S), (24, arena_Turn_S), (32, tendrillaw07_plain_S)]) Try.f9.ntmps [] (bodyOf Try.f9) (κ0 Try.prog Try.f9 false [⟨false, .bool⟩]), CutOk (fun _ _ _ _ => none) p := cutsNil (by kernel_rfl)
set_option maxRecDepth 5000000 in
theorem math_bits_Mul32_run (x : Tup [⟨false, (.num .u32)⟩, ⟨false, (.num .u32)⟩]) : (pxFn Try.prog (lkΓ []) [] Try.f79 (bodyOf Try.f79) false [⟨false, (.num .u32)⟩, ⟨false, (.num .u32)⟩] (encTup [⟨false, (.num .u32)⟩, ⟨false, (.num .u32)⟩] x)).run (fun _ _ _ => none) = math_bits_Mul32 x := by kernel_rfl
theorem math_bits_Mul32_cuts : ∀ p ∈ cuts Try.prog (lkΓ []) Try.f79.ntmps [] (bodyOf Try.f79) (κ0 Try.prog Try.f79 false [⟨false, (.num .u32)⟩, ⟨false, (.num .u32)⟩]), CutOk (fun _ _ _ _ => none) p := cutsNil (by kernel_rfl)
set_option maxRecDepth 5000000 in
theorem tendrillaw07_plain_run (x : Tup []) : (pxFn Try.prog (lkΓ []) [] Try.f32 (bodyOf Try.f32) false [⟨true, (.pair .int (.pair .int (.pair .int (.pair .int .int))))⟩] (encTup [] x)).run (fun _ _ _ => none) = tendrillaw07_plain x := by kernel_rfl
theorem tendrillaw07_plain_cuts : ∀ p ∈ cuts Try.prog (lkΓ []) Try.f32.ntmps [] (bodyOf Try.f32) (κ0 Try.prog Try.f32 false [⟨true, (.pair .int (.pair .int (.pair .int (.pair .int .int))))⟩]), CutOk (fun _ _ _ _ => none) p := cutsNil (by kernel_rfl)
set_option maxRecDepth 5000000 in
theorem tag_Unpack_run (x : Tup [⟨false, .int⟩]) : (pxFn Try.prog (lkΓ []) [] Try.f31 (bodyOf Try.f31) false [⟨false, .int⟩, ⟨false, .int⟩, ⟨false, .int⟩] (encTup [⟨false, .int⟩] x)).run (fun _ _ _ => none) = tag_Unpack x := by kernel_rfl
theorem tag_Unpack_cuts : ∀ p ∈ cuts Try.prog (lkΓ []) Try.f31.ntmps [] (bodyOf Try.f31) (κ0 Try.prog Try.f31 false [⟨false, .int⟩, ⟨false, .int⟩, ⟨false, .int⟩]), CutOk (fun _ _ _ _ => none) p := cutsNil (by kernel_rfl)
end Go.Proofs.YtcoiboghdmmdcacFn
