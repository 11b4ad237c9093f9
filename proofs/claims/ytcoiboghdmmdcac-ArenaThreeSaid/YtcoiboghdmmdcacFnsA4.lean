/- What the interpreter of code computes of these functions, part 4; no condition. -/
import Derived.Test.YtcoiboghdmmdcacProg
import Derived.KernelRfl
import Derived.Test.YtcoiboghdmmdcacPx25
import Derived.Test.YtcoiboghdmmdcacFnsD
set_option linter.unusedVariables false
set_option linter.unusedSimpArgs false
namespace Go.Proofs.YtcoiboghdmmdcacFn
open Go Go.RowKit Go.Proofs.YtcoiboghdmmdcacPx
set_option maxHeartbeats 0 in
set_option maxRecDepth 5000000 in
def tendrilref07_Few_P6v0 (k : Nat) (vs : List SV) (bs : List Blk) : Option (Option (Bool)) := match vs, bs with
  | [.val (.one (.ptr 0 0)), .val (.agg [(.sl .int p0), (.sl .int p1), (.sl .int p2), (.sl .int p3), (.sl .int p4), (.sl .int p5), (.sl .int p6), (.sl .int p7), (.sl .int p8), (.sl .int p9), (.sl .int p10), (.sl .int p11)]), .val (.one (.int .i64 p12))], [.box [(.sl .int p13), (.sl .int p14), (.sl .int p15), (.sl .int p16), (.sl .int p17), (.sl .int p18), (.sl .int p19), (.sl .int p20), (.sl .int p21), (.sl .int p22), (.sl .int p23), (.sl .int p24), (.sl .int p25), (.sl .int p26), (.int .i64 p27), (.sl .int p28)]] => some (tendrilref07_Few_L6 k p0 p1 p2 p3 p4 p5 p6 p7 p8 p9 p10 p11 p12 p13 p14 p15 p16 p17 p18 p19 p20 p21 p22 p23 p24 p25 p26 p27 p28)
  | _, _ => none
def tendrilref07_Few_P6 (k : Nat) (vs : List SV) (bs : List Blk) : Option (Bool) := match tendrilref07_Few_P6v0 k vs bs with | some r => r | none => none
def tendrilref07_Few_Λ (k L : Nat) (vs : List SV) (bs : List Blk) : Option (Bool) := match Nat.beq L 6 with | true => tendrilref07_Few_P6 k vs bs | false => none
noncomputable def tendrilref07_Few_C : List (Cut (Tup [⟨false, .bool⟩])) := cuts Try.prog (lkΓ [(33, tendrilref05_Few_S)]) Try.f10.ntmps [(6, [1, 6, 7])] (bodyOf Try.f10) (κ0 Try.prog Try.f10 false [⟨false, .bool⟩])
set_option maxRecDepth 5000000 in
theorem tendrilref07_Few_c6 (k : Nat) (p0 : List Int) (p1 : List Int) (p2 : List Int) (p3 : List Int) (p4 : List Int) (p5 : List Int) (p6 : List Int) (p7 : List Int) (p8 : List Int) (p9 : List Int) (p10 : List Int) (p11 : List Int) (p12 : Int) (p13 : List Int) (p14 : List Int) (p15 : List Int) (p16 : List Int) (p17 : List Int) (p18 : List Int) (p19 : List Int) (p20 : List Int) (p21 : List Int) (p22 : List Int) (p23 : List Int) (p24 : List Int) (p25 : List Int) (p26 : List Int) (p27 : Int) (p28 : List Int) : ((nthC tendrilref07_Few_C 0).g (mkSt [1, 6, 7] [.val (.one (.ptr 0 0)), .val (.agg [(.sl .int p0), (.sl .int p1), (.sl .int p2), (.sl .int p3), (.sl .int p4), (.sl .int p5), (.sl .int p6), (.sl .int p7), (.sl .int p8), (.sl .int p9), (.sl .int p10), (.sl .int p11)]), .val (.one (.int .i64 p12))] [.box [(.sl .int p13), (.sl .int p14), (.sl .int p15), (.sl .int p16), (.sl .int p17), (.sl .int p18), (.sl .int p19), (.sl .int p20), (.sl .int p21), (.sl .int p22), (.sl .int p23), (.sl .int p24), (.sl .int p25), (.sl .int p26), (.int .i64 p27), (.sl .int p28)]])).run (tendrilref07_Few_Λ k) = tendrilref07_Few_L6 (k + 1) p0 p1 p2 p3 p4 p5 p6 p7 p8 p9 p10 p11 p12 p13 p14 p15 p16 p17 p18 p19 p20 p21 p22 p23 p24 p25 p26 p27 p28 := by kernel_rfl
set_option maxHeartbeats 0 in
set_option maxRecDepth 5000000 in
theorem tendrilref07_Few_e6 (k : Nat) (vs : List SV) (bs : List Blk) (r : Bool) (h : tendrilref07_Few_P6v0 (k + 1) vs bs = some (some r)) : ((nthC tendrilref07_Few_C 0).g (mkSt [1, 6, 7] vs bs)).run (tendrilref07_Few_Λ k) = some r := by
  unfold tendrilref07_Few_P6v0 at h
  split at h
  · exact (tendrilref07_Few_c6 k _ _ _ _ _ _ _ _ _ _ _ _ _ _ _ _ _ _ _ _ _ _ _ _ _ _ _ _ _).trans (Option.some.inj h)
  · cases h
theorem tendrilref07_Few_d6 : CutOk tendrilref07_Few_Λ (nthC tendrilref07_Few_C 0) := by
  refine cutOk_of (L := 6) (live := [1, 6, 7]) (by kernel_rfl) (by kernel_rfl) fun k vs bs r h => ?_
  change tendrilref07_Few_P6 (k + 1) vs bs = some r at h
  unfold tendrilref07_Few_P6 at h
  split at h
  · rename_i q hq
    exact tendrilref07_Few_e6 k vs bs r (hq.trans (congrArg some h))
  cases h
theorem tendrilref07_Few_cuts : ∀ p ∈ cuts Try.prog (lkΓ [(33, tendrilref05_Few_S)]) Try.f10.ntmps [(6, [1, 6, 7])] (bodyOf Try.f10) (κ0 Try.prog Try.f10 false [⟨false, .bool⟩]), CutOk tendrilref07_Few_Λ p := cutsOk (l := tendrilref07_Few_C) (n := 1) (by kernel_rfl) fun
  | 0, _ => tendrilref07_Few_d6
  | k + 1, h => absurd h (by omega)
set_option maxHeartbeats 0 in
set_option maxRecDepth 5000000 in
theorem tendrilref07_Few_z6 (vs : List SV) (bs : List Blk) (q : Option (Bool)) (h : tendrilref07_Few_P6v0 0 vs bs = some q) : q = none := by
  unfold tendrilref07_Few_P6v0 at h; split at h
  · have h := Option.some.inj h; rw [← h]; first | rfl | (unfold tendrilref07_Few_L6; rfl)
  · cases h
theorem tendrilref07_Few_Λ0 (L : Nat) (vs : List SV) (bs : List Blk) : tendrilref07_Few_Λ 0 L vs bs = none := by
  unfold tendrilref07_Few_Λ
  split
  · unfold tendrilref07_Few_P6
    split
    · rename_i q hq; exact tendrilref07_Few_z6 _ _ q hq
    rfl
  rfl
set_option maxRecDepth 5000000 in
theorem tendrilref07_Few_run (K : Nat) (x : Tup [⟨true, (.pair (.sl .int) (.pair (.sl .int) (.pair (.pair (.pair (.sl .int) (.pair (.sl .int) (.pair (.sl .int) (.sl .int)))) (.pair (.pair (.sl .int) (.pair (.sl .int) (.pair (.sl .int) (.sl .int)))) (.pair (.sl .int) (.pair (.sl .int) (.pair (.sl .int) (.sl .int)))))) (.pair .int (.sl .int)))))⟩]) : (pxFn Try.prog (lkΓ [(33, tendrilref05_Few_S)]) [(6, [1, 6, 7])] Try.f10 (bodyOf Try.f10) false [⟨false, .bool⟩] (encTup [⟨true, (.pair (.sl .int) (.pair (.sl .int) (.pair (.pair (.pair (.sl .int) (.pair (.sl .int) (.pair (.sl .int) (.sl .int)))) (.pair (.pair (.sl .int) (.pair (.sl .int) (.pair (.sl .int) (.sl .int)))) (.pair (.sl .int) (.pair (.sl .int) (.pair (.sl .int) (.sl .int)))))) (.pair .int (.sl .int)))))⟩] x)).run (tendrilref07_Few_Λ K) = tendrilref07_Few_K K x := by kernel_rfl
set_option maxHeartbeats 0 in
set_option maxRecDepth 5000000 in
def pool_New_P12v0 (k : Nat) (vs : List SV) (bs : List Blk) : Option (Option ((List Int × List Int × List Int × List Int) × Int)) := match vs, bs with
  | [.val (.one (.ptr 0 0)), .val (.one (.ptr 1 0)), .val (.one (.int .i64 p0)), .val (.one (.int .i64 p1))], [.box [.nil, .nil, .nil, .nil], .box [(.row 2), (.row 3), (.row 4), (.row 5)], .row .int p2, .row .int p3, .row .int p4, .row .int p5] => some (pool_New_L12 k p0 p1 p2 p3 p4 p5)
  | _, _ => none
def pool_New_P12 (k : Nat) (vs : List SV) (bs : List Blk) : Option ((List Int × List Int × List Int × List Int) × Int) := match pool_New_P12v0 k vs bs with | some r => r | none => none
def pool_New_Λ (k L : Nat) (vs : List SV) (bs : List Blk) : Option ((List Int × List Int × List Int × List Int) × Int) := match Nat.beq L 12 with | true => pool_New_P12 k vs bs | false => none
noncomputable def pool_New_C : List (Cut (Tup [⟨true, (.pair (.sl .int) (.pair (.sl .int) (.pair (.sl .int) (.sl .int))))⟩, ⟨false, .int⟩])) := cuts Try.prog (lkΓ []) Try.f36.ntmps [(12, [2, 4, 24, 25])] (bodyOf Try.f36) (κ0 Try.prog Try.f36 true [⟨true, (.pair (.sl .int) (.pair (.sl .int) (.pair (.sl .int) (.sl .int))))⟩, ⟨false, .int⟩])
set_option maxRecDepth 5000000 in
theorem pool_New_c12 (k : Nat) (p0 : Int) (p1 : Int) (p2 : List Int) (p3 : List Int) (p4 : List Int) (p5 : List Int) : ((nthC pool_New_C 0).g (mkSt [2, 4, 24, 25] [.val (.one (.ptr 0 0)), .val (.one (.ptr 1 0)), .val (.one (.int .i64 p0)), .val (.one (.int .i64 p1))] [.box [.nil, .nil, .nil, .nil], .box [(.row 2), (.row 3), (.row 4), (.row 5)], .row .int p2, .row .int p3, .row .int p4, .row .int p5])).run (pool_New_Λ k) = pool_New_L12 (k + 1) p0 p1 p2 p3 p4 p5 := by kernel_rfl
set_option maxHeartbeats 0 in
set_option maxRecDepth 5000000 in
theorem pool_New_e12 (k : Nat) (vs : List SV) (bs : List Blk) (r : ((List Int) × ((List Int) × ((List Int) × (List Int)))) × Int) (h : pool_New_P12v0 (k + 1) vs bs = some (some r)) : ((nthC pool_New_C 0).g (mkSt [2, 4, 24, 25] vs bs)).run (pool_New_Λ k) = some r := by
  unfold pool_New_P12v0 at h
  split at h
  · exact (pool_New_c12 k _ _ _ _ _ _).trans (Option.some.inj h)
  · cases h
theorem pool_New_d12 : CutOk pool_New_Λ (nthC pool_New_C 0) := by
  refine cutOk_of (L := 12) (live := [2, 4, 24, 25]) (by kernel_rfl) (by kernel_rfl) fun k vs bs r h => ?_
  change pool_New_P12 (k + 1) vs bs = some r at h
  unfold pool_New_P12 at h
  split at h
  · rename_i q hq
    exact pool_New_e12 k vs bs r (hq.trans (congrArg some h))
  cases h
theorem pool_New_cuts : ∀ p ∈ cuts Try.prog (lkΓ []) Try.f36.ntmps [(12, [2, 4, 24, 25])] (bodyOf Try.f36) (κ0 Try.prog Try.f36 true [⟨true, (.pair (.sl .int) (.pair (.sl .int) (.pair (.sl .int) (.sl .int))))⟩, ⟨false, .int⟩]), CutOk pool_New_Λ p := cutsOk (l := pool_New_C) (n := 1) (by kernel_rfl) fun
  | 0, _ => pool_New_d12
  | k + 1, h => absurd h (by omega)
set_option maxHeartbeats 0 in
set_option maxRecDepth 5000000 in
theorem pool_New_z12 (vs : List SV) (bs : List Blk) (q : Option (((List Int) × ((List Int) × ((List Int) × (List Int)))) × Int)) (h : pool_New_P12v0 0 vs bs = some q) : q = none := by
  unfold pool_New_P12v0 at h; split at h
  · have h := Option.some.inj h; rw [← h]; first | rfl | (unfold pool_New_L12; rfl)
  · cases h
theorem pool_New_Λ0 (L : Nat) (vs : List SV) (bs : List Blk) : pool_New_Λ 0 L vs bs = none := by
  unfold pool_New_Λ
  split
  · unfold pool_New_P12
    split
    · rename_i q hq; exact pool_New_z12 _ _ q hq
    rfl
  rfl
set_option maxRecDepth 5000000 in
theorem pool_New_run (K : Nat) (x : Tup [⟨false, .int⟩]) : (pxFn Try.prog (lkΓ []) [(12, [2, 4, 24, 25])] Try.f36 (bodyOf Try.f36) true [⟨true, (.pair (.sl .int) (.pair (.sl .int) (.pair (.sl .int) (.sl .int))))⟩, ⟨false, .int⟩] (encTup [⟨false, .int⟩] x)).run (pool_New_Λ K) = pool_New_K K x := by kernel_rfl
set_option maxRecDepth 5000000 in
theorem arena_Retire_run (x : Tup [⟨true, (.pair (.sl .int) (.pair (.sl .int) (.pair (.pair (.pair (.sl .int) (.pair (.sl .int) (.pair (.sl .int) (.sl .int)))) (.pair (.pair (.sl .int) (.pair (.sl .int) (.pair (.sl .int) (.sl .int)))) (.pair (.sl .int) (.pair (.sl .int) (.pair (.sl .int) (.sl .int)))))) (.pair .int (.sl .int)))))⟩, ⟨false, .int⟩, ⟨false, .int⟩]) : (pxFn Try.prog (lkΓ [(46, arena_may_S), (48, pool_Retire_S)]) [] Try.f17 (bodyOf Try.f17) false [⟨true, (.pair (.sl .int) (.pair (.sl .int) (.pair (.pair (.pair (.sl .int) (.pair (.sl .int) (.pair (.sl .int) (.sl .int)))) (.pair (.pair (.sl .int) (.pair (.sl .int) (.pair (.sl .int) (.sl .int)))) (.pair (.sl .int) (.pair (.sl .int) (.pair (.sl .int) (.sl .int)))))) (.pair .int (.sl .int)))))⟩, ⟨false, .int⟩] (encTup [⟨true, (.pair (.sl .int) (.pair (.sl .int) (.pair (.pair (.pair (.sl .int) (.pair (.sl .int) (.pair (.sl .int) (.sl .int)))) (.pair (.pair (.sl .int) (.pair (.sl .int) (.pair (.sl .int) (.sl .int)))) (.pair (.sl .int) (.pair (.sl .int) (.pair (.sl .int) (.sl .int)))))) (.pair .int (.sl .int)))))⟩, ⟨false, .int⟩, ⟨false, .int⟩] x)).run (fun _ _ _ => none) = arena_Retire x := by kernel_rfl
theorem arena_Retire_cuts : ∀ p ∈ cuts Try.prog (lkΓ [(46, arena_may_S), (48, pool_Retire_S)]) Try.f17.ntmps [] (bodyOf Try.f17) (κ0 Try.prog Try.f17 false [⟨true, (.pair (.sl .int) (.pair (.sl .int) (.pair (.pair (.pair (.sl .int) (.pair (.sl .int) (.pair (.sl .int) (.sl .int)))) (.pair (.pair (.sl .int) (.pair (.sl .int) (.pair (.sl .int) (.sl .int)))) (.pair (.sl .int) (.pair (.sl .int) (.pair (.sl .int) (.sl .int)))))) (.pair .int (.sl .int)))))⟩, ⟨false, .int⟩]), CutOk (fun _ _ _ _ => none) p := cutsNil (by kernel_rfl)
set_option maxRecDepth 5000000 in
theorem arena_may_run (x : Tup [⟨true, (.pair (.sl .int) (.pair (.sl .int) (.pair (.pair (.pair (.sl .int) (.pair (.sl .int) (.pair (.sl .int) (.sl .int)))) (.pair (.pair (.sl .int) (.pair (.sl .int) (.pair (.sl .int) (.sl .int)))) (.pair (.sl .int) (.pair (.sl .int) (.pair (.sl .int) (.sl .int)))))) (.pair .int (.sl .int)))))⟩, ⟨false, .int⟩]) : (pxFn Try.prog (lkΓ [(14, arena_Check_S)]) [] Try.f46 (bodyOf Try.f46) false [⟨false, .bool⟩] (encTup [⟨true, (.pair (.sl .int) (.pair (.sl .int) (.pair (.pair (.pair (.sl .int) (.pair (.sl .int) (.pair (.sl .int) (.sl .int)))) (.pair (.pair (.sl .int) (.pair (.sl .int) (.pair (.sl .int) (.sl .int)))) (.pair (.sl .int) (.pair (.sl .int) (.pair (.sl .int) (.sl .int)))))) (.pair .int (.sl .int)))))⟩, ⟨false, .int⟩] x)).run (fun _ _ _ => none) = arena_may x := by kernel_rfl
theorem arena_may_cuts : ∀ p ∈ cuts Try.prog (lkΓ [(14, arena_Check_S)]) Try.f46.ntmps [] (bodyOf Try.f46) (κ0 Try.prog Try.f46 false [⟨false, .bool⟩]), CutOk (fun _ _ _ _ => none) p := cutsNil (by kernel_rfl)
set_option maxRecDepth 5000000 in
theorem slices_ContainsFunc_era_Check_1_run (x : Tup [⟨false, (.sl .int)⟩, ⟨false, (.clo 65 (.ref (.pair .int (.sl .int))))⟩]) : (pxFn Try.prog (lkΓ [(66000078, slices_IndexFunc_era_Check_1_S)]) [] Try.f66 (bodyOf Try.f66) false [⟨false, .bool⟩] (encTup [⟨false, (.sl .int)⟩, ⟨false, (.clo 65 (.ref (.pair .int (.sl .int))))⟩] x)).run (fun _ _ _ => none) = slices_ContainsFunc_era_Check_1 x := by kernel_rfl
theorem slices_ContainsFunc_era_Check_1_cuts : ∀ p ∈ cuts Try.prog (lkΓ [(66000078, slices_IndexFunc_era_Check_1_S)]) Try.f66.ntmps [] (bodyOf Try.f66) (κ0 Try.prog Try.f66 false [⟨false, .bool⟩]), CutOk (fun _ _ _ _ => none) p := cutsNil (by kernel_rfl)
set_option maxRecDepth 5000000 in
theorem math_bits_Mul32_run (x : Tup [⟨false, (.num .u32)⟩, ⟨false, (.num .u32)⟩]) : (pxFn Try.prog (lkΓ []) [] Try.f79 (bodyOf Try.f79) false [⟨false, (.num .u32)⟩, ⟨false, (.num .u32)⟩] (encTup [⟨false, (.num .u32)⟩, ⟨false, (.num .u32)⟩] x)).run (fun _ _ _ => none) = math_bits_Mul32 x := by kernel_rfl
theorem math_bits_Mul32_cuts : ∀ p ∈ cuts Try.prog (lkΓ []) Try.f79.ntmps [] (bodyOf Try.f79) (κ0 Try.prog Try.f79 false [⟨false, (.num .u32)⟩, ⟨false, (.num .u32)⟩]), CutOk (fun _ _ _ _ => none) p := cutsNil (by kernel_rfl)
set_option maxRecDepth 5000000 in
theorem tendrillaw07_plain_run (x : Tup []) : (pxFn Try.prog (lkΓ []) [] Try.f32 (bodyOf Try.f32) false [⟨true, (.pair .int (.pair .int (.pair .int (.pair .int .int))))⟩] (encTup [] x)).run (fun _ _ _ => none) = tendrillaw07_plain x := by kernel_rfl
theorem tendrillaw07_plain_cuts : ∀ p ∈ cuts Try.prog (lkΓ []) Try.f32.ntmps [] (bodyOf Try.f32) (κ0 Try.prog Try.f32 false [⟨true, (.pair .int (.pair .int (.pair .int (.pair .int .int))))⟩]), CutOk (fun _ _ _ _ => none) p := cutsNil (by kernel_rfl)
set_option maxRecDepth 5000000 in
theorem tag_Pack_run (x : Tup [⟨false, .int⟩, ⟨false, .int⟩]) : (pxFn Try.prog (lkΓ []) [] Try.f68 (bodyOf Try.f68) false [⟨false, .int⟩, ⟨false, .int⟩] (encTup [⟨false, .int⟩, ⟨false, .int⟩] x)).run (fun _ _ _ => none) = tag_Pack x := by kernel_rfl
theorem tag_Pack_cuts : ∀ p ∈ cuts Try.prog (lkΓ []) Try.f68.ntmps [] (bodyOf Try.f68) (κ0 Try.prog Try.f68 false [⟨false, .int⟩, ⟨false, .int⟩]), CutOk (fun _ _ _ _ => none) p := cutsNil (by kernel_rfl)
end Go.Proofs.YtcoiboghdmmdcacFn
