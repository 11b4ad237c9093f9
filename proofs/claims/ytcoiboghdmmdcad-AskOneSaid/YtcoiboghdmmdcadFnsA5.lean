/- What the interpreter of code computes of these functions, part 5; no condition. -/
import Derived.Test.YtcoiboghdmmdcadProg
import Derived.KernelRfl
import Derived.Test.YtcoiboghdmmdcadPx25
import Derived.Test.YtcoiboghdmmdcadFnsD
set_option linter.unusedVariables false
set_option linter.unusedSimpArgs false
namespace Go.Proofs.YtcoiboghdmmdcadFn
open Go Go.RowKit Go.Proofs.YtcoiboghdmmdcadPx
set_option maxHeartbeats 0 in
set_option maxRecDepth 5000000 in
def tendrilref05_New_P12v0 (k : Nat) (vs : List SV) (bs : List Blk) : Option (Option ((List Int × List Int × List Int × List Int) × Int)) := match vs, bs with
  | [.val (.one (.ptr 0 0)), .val (.one (.ptr 1 0)), .val (.one (.int .i64 p0)), .val (.one (.int .i64 p1))], [.box [.nil, .nil, .nil, .nil], .box [(.row 2), (.row 3), (.row 4), .nil], .row .int p2, .row .int p3, .row .int p4] => some (tendrilref05_New_L12 k p0 p1 p2 p3 p4)
  | _, _ => none
set_option maxHeartbeats 0 in
set_option maxRecDepth 5000000 in
def tendrilref05_New_P12v1 (k : Nat) (vs : List SV) (bs : List Blk) : Option (Option ((List Int × List Int × List Int × List Int) × Int)) := match vs, bs with
  | [.val (.one (.ptr 0 0)), .val (.one (.ptr 1 0)), .val (.one (.int .i64 p0)), .val (.one (.int .i64 p1))], [.box [.nil, .nil, .nil, .nil], .box [(.row 2), (.row 3), (.row 4), (.row 5)], .row .int p2, .row .int p3, .row .int p4, .row .int p5] => some (tendrilref05_New_L12x1 k p0 p1 p2 p3 p4 p5)
  | _, _ => none
def tendrilref05_New_P12 (k : Nat) (vs : List SV) (bs : List Blk) : Option ((List Int × List Int × List Int × List Int) × Int) := match tendrilref05_New_P12v0 k vs bs with | some r => r | none => match tendrilref05_New_P12v1 k vs bs with | some r => r | none => none
def tendrilref05_New_Λ (k L : Nat) (vs : List SV) (bs : List Blk) : Option ((List Int × List Int × List Int × List Int) × Int) := match Nat.beq L 12 with | true => tendrilref05_New_P12 k vs bs | false => none
noncomputable def tendrilref05_New_C : List (Cut (Tup [⟨true, (.pair (.sl .int) (.pair (.sl .int) (.pair (.sl .int) (.sl .int))))⟩, ⟨false, .int⟩])) := cuts Try.prog (lkΓ []) Try.f46.ntmps [(12, [2, 4, 20, 21])] (bodyOf Try.f46) (κ0 Try.prog Try.f46 true [⟨true, (.pair (.sl .int) (.pair (.sl .int) (.pair (.sl .int) (.sl .int))))⟩, ⟨false, .int⟩])
set_option maxRecDepth 5000000 in
theorem tendrilref05_New_c12 (k : Nat) (p0 : Int) (p1 : Int) (p2 : List Int) (p3 : List Int) (p4 : List Int) : ((nthC tendrilref05_New_C 0).g (mkSt [2, 4, 20, 21] [.val (.one (.ptr 0 0)), .val (.one (.ptr 1 0)), .val (.one (.int .i64 p0)), .val (.one (.int .i64 p1))] [.box [.nil, .nil, .nil, .nil], .box [(.row 2), (.row 3), (.row 4), .nil], .row .int p2, .row .int p3, .row .int p4])).run (tendrilref05_New_Λ k) = tendrilref05_New_L12 (k + 1) p0 p1 p2 p3 p4 := by kernel_rfl
set_option maxHeartbeats 0 in
set_option maxRecDepth 5000000 in
theorem tendrilref05_New_e12 (k : Nat) (vs : List SV) (bs : List Blk) (r : ((List Int) × ((List Int) × ((List Int) × (List Int)))) × Int) (h : tendrilref05_New_P12v0 (k + 1) vs bs = some (some r)) : ((nthC tendrilref05_New_C 0).g (mkSt [2, 4, 20, 21] vs bs)).run (tendrilref05_New_Λ k) = some r := by
  unfold tendrilref05_New_P12v0 at h
  split at h
  · exact (tendrilref05_New_c12 k _ _ _ _ _).trans (Option.some.inj h)
  · cases h
set_option maxRecDepth 5000000 in
theorem tendrilref05_New_c12x1 (k : Nat) (p0 : Int) (p1 : Int) (p2 : List Int) (p3 : List Int) (p4 : List Int) (p5 : List Int) : ((nthC tendrilref05_New_C 0).g (mkSt [2, 4, 20, 21] [.val (.one (.ptr 0 0)), .val (.one (.ptr 1 0)), .val (.one (.int .i64 p0)), .val (.one (.int .i64 p1))] [.box [.nil, .nil, .nil, .nil], .box [(.row 2), (.row 3), (.row 4), (.row 5)], .row .int p2, .row .int p3, .row .int p4, .row .int p5])).run (tendrilref05_New_Λ k) = tendrilref05_New_L12x1 (k + 1) p0 p1 p2 p3 p4 p5 := by kernel_rfl
set_option maxHeartbeats 0 in
set_option maxRecDepth 5000000 in
theorem tendrilref05_New_e12x1 (k : Nat) (vs : List SV) (bs : List Blk) (r : ((List Int) × ((List Int) × ((List Int) × (List Int)))) × Int) (h : tendrilref05_New_P12v1 (k + 1) vs bs = some (some r)) : ((nthC tendrilref05_New_C 0).g (mkSt [2, 4, 20, 21] vs bs)).run (tendrilref05_New_Λ k) = some r := by
  unfold tendrilref05_New_P12v1 at h
  split at h
  · exact (tendrilref05_New_c12x1 k _ _ _ _ _ _).trans (Option.some.inj h)
  · cases h
theorem tendrilref05_New_d12 : CutOk tendrilref05_New_Λ (nthC tendrilref05_New_C 0) := by
  refine cutOk_of (L := 12) (live := [2, 4, 20, 21]) (by kernel_rfl) (by kernel_rfl) fun k vs bs r h => ?_
  change tendrilref05_New_P12 (k + 1) vs bs = some r at h
  unfold tendrilref05_New_P12 at h
  split at h
  · rename_i q hq
    exact tendrilref05_New_e12 k vs bs r (hq.trans (congrArg some h))
  split at h
  · rename_i q hq
    exact tendrilref05_New_e12x1 k vs bs r (hq.trans (congrArg some h))
  cases h
theorem tendrilref05_New_cuts : ∀ p ∈ cuts Try.prog (lkΓ []) Try.f46.ntmps [(12, [2, 4, 20, 21])] (bodyOf Try.f46) (κ0 Try.prog Try.f46 true [⟨true, (.pair (.sl .int) (.pair (.sl .int) (.pair (.sl .int) (.sl .int))))⟩, ⟨false, .int⟩]), CutOk tendrilref05_New_Λ p := cutsOk (l := tendrilref05_New_C) (n := 1) (by kernel_rfl) fun
  | 0, _ => tendrilref05_New_d12
  | k + 1, h => absurd h (by omega)
set_option maxHeartbeats 0 in
set_option maxRecDepth 5000000 in
theorem tendrilref05_New_z12 (vs : List SV) (bs : List Blk) (q : Option (((List Int) × ((List Int) × ((List Int) × (List Int)))) × Int)) (h : tendrilref05_New_P12v0 0 vs bs = some q) : q = none := by
  unfold tendrilref05_New_P12v0 at h; split at h
  · have h := Option.some.inj h; rw [← h]; first | rfl | (unfold tendrilref05_New_L12; rfl)
  · cases h
set_option maxHeartbeats 0 in
set_option maxRecDepth 5000000 in
theorem tendrilref05_New_z12x1 (vs : List SV) (bs : List Blk) (q : Option (((List Int) × ((List Int) × ((List Int) × (List Int)))) × Int)) (h : tendrilref05_New_P12v1 0 vs bs = some q) : q = none := by
  unfold tendrilref05_New_P12v1 at h; split at h
  · have h := Option.some.inj h; rw [← h]; first | rfl | (unfold tendrilref05_New_L12x1; rfl)
  · cases h
theorem tendrilref05_New_Λ0 (L : Nat) (vs : List SV) (bs : List Blk) : tendrilref05_New_Λ 0 L vs bs = none := by
  unfold tendrilref05_New_Λ
  split
  · unfold tendrilref05_New_P12
    split
    · rename_i q hq; exact tendrilref05_New_z12 _ _ q hq
    split
    · rename_i q hq; exact tendrilref05_New_z12x1 _ _ q hq
    rfl
  rfl
set_option maxRecDepth 5000000 in
theorem tendrilref05_New_run (K : Nat) (x : Tup [⟨false, .int⟩]) : (pxFn Try.prog (lkΓ []) [(12, [2, 4, 20, 21])] Try.f46 (bodyOf Try.f46) true [⟨true, (.pair (.sl .int) (.pair (.sl .int) (.pair (.sl .int) (.sl .int))))⟩, ⟨false, .int⟩] (encTup [⟨false, .int⟩] x)).run (tendrilref05_New_Λ K) = tendrilref05_New_K K x := by kernel_rfl
set_option maxHeartbeats 0 in
set_option maxRecDepth 5000000 in
def tendrilref07_Few_P6v0 (k : Nat) (vs : List SV) (bs : List Blk) : Option (Option (Bool)) := match vs, bs with
  | [.val (.one (.ptr 0 0)), .val (.agg [(.sl .int p0), (.sl .int p1), (.sl .int p2), (.sl .int p3), (.sl .int p4), (.sl .int p5), (.sl .int p6), (.sl .int p7), (.sl .int p8), (.sl .int p9), (.sl .int p10), (.sl .int p11)]), .val (.one (.int .i64 p12))], [.box [(.sl .int p13), (.sl .int p14), (.sl .int p15), (.sl .int p16), (.sl .int p17), (.sl .int p18), (.sl .int p19), (.sl .int p20), (.sl .int p21), (.sl .int p22), (.sl .int p23), (.sl .int p24), (.sl .int p25), (.sl .int p26), (.int .i64 p27), (.sl .int p28)]] => some (tendrilref07_Few_L6 k p0 p1 p2 p3 p4 p5 p6 p7 p8 p9 p10 p11 p12 p13 p14 p15 p16 p17 p18 p19 p20 p21 p22 p23 p24 p25 p26 p27 p28)
  | _, _ => none
def tendrilref07_Few_P6 (k : Nat) (vs : List SV) (bs : List Blk) : Option (Bool) := match tendrilref07_Few_P6v0 k vs bs with | some r => r | none => none
def tendrilref07_Few_Λ (k L : Nat) (vs : List SV) (bs : List Blk) : Option (Bool) := match Nat.beq L 6 with | true => tendrilref07_Few_P6 k vs bs | false => none
noncomputable def tendrilref07_Few_C : List (Cut (Tup [⟨false, .bool⟩])) := cuts Try.prog (lkΓ [(21, tendrilref05_Few_S)]) Try.f9.ntmps [(6, [1, 6, 7])] (bodyOf Try.f9) (κ0 Try.prog Try.f9 false [⟨false, .bool⟩])
set_option maxRecDepth 5000000 in
theorem tendrilref07_Few_c6 (k : Nat) (p0 : List Int) (p1 : List Int) (p2 : List Int) (p3 : List Int) (p4 : List Int) (p5 : List Int) (p6 : List Int) (p7 : List Int) (p8 : List Int) (p9 : List Int) (p10 : List Int) (p11 : List Int) (p12 : Int) (p13 : List Int) (p14 : List Int) (p15 : List Int) (p16 : List Int) (p17 : List Int) (p18 : List Int) (p19 : List Int) (p20 : List Int) (p21 : List Int) (p22 : List Int) (p23 : List Int) (p24 : List Int) (p25 : List Int) (p26 : List Int) (p27 : Int) (p28 : List Int) : ((nthC tendrilref07_Few_C 0).g (mkSt [1, 6, 7] [.val (.one (.ptr 0 0)), .val (.agg [(.sl .int p0), (.sl .int p1), (.sl .int p2), (.sl .int p3), (.sl .int p4), (.sl .int p5), (.sl .int p6), (.sl .int p7), (.sl .int p8), (.sl .int p9), (.sl .int p10), (.sl .int p11)]), .val (.one (.int .i64 p12))] [.box [(.sl .int p13), (.sl .int p14), (.sl .int p15), (.sl .int p16), (.sl .int p17), (.sl .int p18), (.sl .int p19), (.sl .int p20), (.sl .int p21), (.sl .int p22), (.sl .int p23), (.sl .int p24), (.sl .int p25), (.sl .int p26), (.int .i64 p27), (.sl .int p28)]])).run (tendrilref07_Few_Λ k) = tendrilref07_Few_L6 (k + 1) p0 p1 p2 p3 p4 p5 p6 p7 p8 p9 p10 p11 p12 p13 p14 p15 p16 p17 p18 p19 p20 p21 p22 p23 p24 p25 p26 p27 p28 := by kernel_rfl
set_option maxHeartbeats 0 in
set_option maxRecDepth 5000000 in
theorem tendrilref07_Few_e6 (k : Nat) (vs : List SV) (bs : List Blk) (r : Bool) (h : tendrilref07_Few_P6v0 (k + 1) vs bs = some (some r)) : ((nthC tendrilref07_Few_C 0).g (mkSt [1, 6, 7] vs bs)).run (tendrilref07_Few_Λ k) = some r := by
  unfold tendrilref07_Few_P6v0 at h
  split at h
  · exact (tendrilref07_Few_c6 k _ _ _ _ _ _ _ _ _ _ _ _ _ _ _ _ _ _ _ _ _ _ _ _ _ _ _ _ _).trans (Option.some.inj h)
  · cases h
theorem tendrilref07_Few_d6 : CutOk tendrilref07_Few_Λ (nthC tendrilref07_Few_C 0) := by
  refine cutOk_of (L := 6) (live := [1, 6, 7]) (by kernel_rfl) (by kernel_rfl) fun k vs bs r h => ?_
  change tendrilref07_Few_P6 (k + 1) vs bs = some r at h
  unfold tendrilref07_Few_P6 at h
  split at h
  · rename_i q hq
    exact tendrilref07_Few_e6 k vs bs r (hq.trans (congrArg some h))
  cases h
theorem tendrilref07_Few_cuts : ∀ p ∈ cuts Try.prog (lkΓ [(21, tendrilref05_Few_S)]) Try.f9.ntmps [(6, [1, 6, 7])] (bodyOf Try.f9) (κ0 Try.prog Try.f9 false [⟨false, .bool⟩]), CutOk tendrilref07_Few_Λ p := cutsOk (l := tendrilref07_Few_C) (n := 1) (by kernel_rfl) fun
  | 0, _ => tendrilref07_Few_d6
  | k + 1, h => absurd h (by omega)
set_option maxHeartbeats 0 in
set_option maxRecDepth 5000000 in
theorem tendrilref07_Few_z6 (vs : List SV) (bs : List Blk) (q : Option (Bool)) (h : tendrilref07_Few_P6v0 0 vs bs = some q) : q = none := by
  unfold tendrilref07_Few_P6v0 at h; split at h
  · have h := Option.some.inj h; rw [← h]; first | rfl | (unfold tendrilref07_Few_L6; rfl)
  · cases h
theorem tendrilref07_Few_Λ0 (L : Nat) (vs : List SV) (bs : List Blk) : tendrilref07_Few_Λ 0 L vs bs = none := by
  unfold tendrilref07_Few_Λ
  split
  · unfold tendrilref07_Few_P6
    split
    · rename_i q hq; exact tendrilref07_Few_z6 _ _ q hq
    rfl
  rfl
set_option maxRecDepth 5000000 in
theorem tendrilref07_Few_run (K : Nat) (x : Tup [⟨true, (.pair (.sl .int) (.pair (.sl .int) (.pair (.pair (.pair (.sl .int) (.pair (.sl .int) (.pair (.sl .int) (.sl .int)))) (.pair (.pair (.sl .int) (.pair (.sl .int) (.pair (.sl .int) (.sl .int)))) (.pair (.sl .int) (.pair (.sl .int) (.pair (.sl .int) (.sl .int)))))) (.pair .int (.sl .int)))))⟩]) : (pxFn Try.prog (lkΓ [(21, tendrilref05_Few_S)]) [(6, [1, 6, 7])] Try.f9 (bodyOf Try.f9) false [⟨false, .bool⟩] (encTup [⟨true, (.pair (.sl .int) (.pair (.sl .int) (.pair (.pair (.pair (.sl .int) (.pair (.sl .int) (.pair (.sl .int) (.sl .int)))) (.pair (.pair (.sl .int) (.pair (.sl .int) (.pair (.sl .int) (.sl .int)))) (.pair (.sl .int) (.pair (.sl .int) (.pair (.sl .int) (.sl .int)))))) (.pair .int (.sl .int)))))⟩] x)).run (tendrilref07_Few_Λ K) = tendrilref07_Few_K K x := by kernel_rfl
set_option maxHeartbeats 0 in
set_option maxRecDepth 5000000 in
def slices_IndexFunc_era_Check_1_P6v0 (k : Nat) (vs : List SV) (bs : List Blk) : Option (Option (Int)) := match vs, bs with
  | [.val (.one (.sl .int p0)), .val (.one (.clo 76 (.ref (.pair .int (.sl .int))) p1)), .val (.one (.int .i64 p2)), .val (.one (.int .i64 p3))], [] => some (slices_IndexFunc_era_Check_1_L6 k p0 p1 p2 p3)
  | _, _ => none
def slices_IndexFunc_era_Check_1_P6 (k : Nat) (vs : List SV) (bs : List Blk) : Option (Int) := match slices_IndexFunc_era_Check_1_P6v0 k vs bs with | some r => r | none => none
def slices_IndexFunc_era_Check_1_Λ (k L : Nat) (vs : List SV) (bs : List Blk) : Option (Int) := match Nat.beq L 6 with | true => slices_IndexFunc_era_Check_1_P6 k vs bs | false => none
noncomputable def slices_IndexFunc_era_Check_1_C : List (Cut (Tup [⟨false, .int⟩])) := cuts Try.prog (lkΓ [(76, era_Check_1_S)]) Try.f64.ntmps [(6, [0, 1, 7, 8])] (bodyOf Try.f64) (κ0 Try.prog Try.f64 false [⟨false, .int⟩])
set_option maxRecDepth 5000000 in
theorem slices_IndexFunc_era_Check_1_c6 (k : Nat) (p0 : List Int) (p1 : Int × List Int) (p2 : Int) (p3 : Int) : ((nthC slices_IndexFunc_era_Check_1_C 0).g (mkSt [0, 1, 7, 8] [.val (.one (.sl .int p0)), .val (.one (.clo 76 (.ref (.pair .int (.sl .int))) p1)), .val (.one (.int .i64 p2)), .val (.one (.int .i64 p3))] [])).run (slices_IndexFunc_era_Check_1_Λ k) = slices_IndexFunc_era_Check_1_L6 (k + 1) p0 p1 p2 p3 := by kernel_rfl
set_option maxHeartbeats 0 in
set_option maxRecDepth 5000000 in
theorem slices_IndexFunc_era_Check_1_e6 (k : Nat) (vs : List SV) (bs : List Blk) (r : Int) (h : slices_IndexFunc_era_Check_1_P6v0 (k + 1) vs bs = some (some r)) : ((nthC slices_IndexFunc_era_Check_1_C 0).g (mkSt [0, 1, 7, 8] vs bs)).run (slices_IndexFunc_era_Check_1_Λ k) = some r := by
  unfold slices_IndexFunc_era_Check_1_P6v0 at h
  split at h
  · exact (slices_IndexFunc_era_Check_1_c6 k _ _ _ _).trans (Option.some.inj h)
  · cases h
theorem slices_IndexFunc_era_Check_1_d6 : CutOk slices_IndexFunc_era_Check_1_Λ (nthC slices_IndexFunc_era_Check_1_C 0) := by
  refine cutOk_of (L := 6) (live := [0, 1, 7, 8]) (by kernel_rfl) (by kernel_rfl) fun k vs bs r h => ?_
  change slices_IndexFunc_era_Check_1_P6 (k + 1) vs bs = some r at h
  unfold slices_IndexFunc_era_Check_1_P6 at h
  split at h
  · rename_i q hq
    exact slices_IndexFunc_era_Check_1_e6 k vs bs r (hq.trans (congrArg some h))
  cases h
theorem slices_IndexFunc_era_Check_1_cuts : ∀ p ∈ cuts Try.prog (lkΓ [(76, era_Check_1_S)]) Try.f64.ntmps [(6, [0, 1, 7, 8])] (bodyOf Try.f64) (κ0 Try.prog Try.f64 false [⟨false, .int⟩]), CutOk slices_IndexFunc_era_Check_1_Λ p := cutsOk (l := slices_IndexFunc_era_Check_1_C) (n := 1) (by kernel_rfl) fun
  | 0, _ => slices_IndexFunc_era_Check_1_d6
  | k + 1, h => absurd h (by omega)
set_option maxHeartbeats 0 in
set_option maxRecDepth 5000000 in
theorem slices_IndexFunc_era_Check_1_z6 (vs : List SV) (bs : List Blk) (q : Option (Int)) (h : slices_IndexFunc_era_Check_1_P6v0 0 vs bs = some q) : q = none := by
  unfold slices_IndexFunc_era_Check_1_P6v0 at h; split at h
  · have h := Option.some.inj h; rw [← h]; first | rfl | (unfold slices_IndexFunc_era_Check_1_L6; rfl)
  · cases h
theorem slices_IndexFunc_era_Check_1_Λ0 (L : Nat) (vs : List SV) (bs : List Blk) : slices_IndexFunc_era_Check_1_Λ 0 L vs bs = none := by
  unfold slices_IndexFunc_era_Check_1_Λ
  split
  · unfold slices_IndexFunc_era_Check_1_P6
    split
    · rename_i q hq; exact slices_IndexFunc_era_Check_1_z6 _ _ q hq
    rfl
  rfl
set_option maxRecDepth 5000000 in
theorem slices_IndexFunc_era_Check_1_run (K : Nat) (x : Tup [⟨false, (.sl .int)⟩, ⟨false, (.clo 76 (.ref (.pair .int (.sl .int))))⟩]) : (pxFn Try.prog (lkΓ [(76, era_Check_1_S)]) [(6, [0, 1, 7, 8])] Try.f64 (bodyOf Try.f64) false [⟨false, .int⟩] (encTup [⟨false, (.sl .int)⟩, ⟨false, (.clo 76 (.ref (.pair .int (.sl .int))))⟩] x)).run (slices_IndexFunc_era_Check_1_Λ K) = slices_IndexFunc_era_Check_1_K K x := by kernel_rfl
set_option maxHeartbeats 0 in
set_option maxRecDepth 5000000 in
def slices_IndexFunc_shape_Check_1_P6v0 (k : Nat) (vs : List SV) (bs : List Blk) : Option (Option (Int)) := match vs, bs with
  | [.val (.one (.sl .int p0)), .val (.one (.func 38 [])), .val (.one (.int .i64 p1)), .val (.one (.int .i64 p2))], [] => some (slices_IndexFunc_shape_Check_1_L6 k p0 p1 p2)
  | _, _ => none
def slices_IndexFunc_shape_Check_1_P6 (k : Nat) (vs : List SV) (bs : List Blk) : Option (Int) := match slices_IndexFunc_shape_Check_1_P6v0 k vs bs with | some r => r | none => none
def slices_IndexFunc_shape_Check_1_Λ (k L : Nat) (vs : List SV) (bs : List Blk) : Option (Int) := match Nat.beq L 6 with | true => slices_IndexFunc_shape_Check_1_P6 k vs bs | false => none
noncomputable def slices_IndexFunc_shape_Check_1_C : List (Cut (Tup [⟨false, .int⟩])) := cuts Try.prog (lkΓ [(38, shape_Check_1_S)]) Try.f64.ntmps [(6, [0, 1, 7, 8])] (bodyOf Try.f64) (κ0 Try.prog Try.f64 false [⟨false, .int⟩])
set_option maxRecDepth 5000000 in
theorem slices_IndexFunc_shape_Check_1_c6 (k : Nat) (p0 : List Int) (p1 : Int) (p2 : Int) : ((nthC slices_IndexFunc_shape_Check_1_C 0).g (mkSt [0, 1, 7, 8] [.val (.one (.sl .int p0)), .val (.one (.func 38 [])), .val (.one (.int .i64 p1)), .val (.one (.int .i64 p2))] [])).run (slices_IndexFunc_shape_Check_1_Λ k) = slices_IndexFunc_shape_Check_1_L6 (k + 1) p0 p1 p2 := by kernel_rfl
set_option maxHeartbeats 0 in
set_option maxRecDepth 5000000 in
theorem slices_IndexFunc_shape_Check_1_e6 (k : Nat) (vs : List SV) (bs : List Blk) (r : Int) (h : slices_IndexFunc_shape_Check_1_P6v0 (k + 1) vs bs = some (some r)) : ((nthC slices_IndexFunc_shape_Check_1_C 0).g (mkSt [0, 1, 7, 8] vs bs)).run (slices_IndexFunc_shape_Check_1_Λ k) = some r := by
  unfold slices_IndexFunc_shape_Check_1_P6v0 at h
  split at h
  · exact (slices_IndexFunc_shape_Check_1_c6 k _ _ _).trans (Option.some.inj h)
  · cases h
theorem slices_IndexFunc_shape_Check_1_d6 : CutOk slices_IndexFunc_shape_Check_1_Λ (nthC slices_IndexFunc_shape_Check_1_C 0) := by
  refine cutOk_of (L := 6) (live := [0, 1, 7, 8]) (by kernel_rfl) (by kernel_rfl) fun k vs bs r h => ?_
  change slices_IndexFunc_shape_Check_1_P6 (k + 1) vs bs = some r at h
  unfold slices_IndexFunc_shape_Check_1_P6 at h
  split at h
  · rename_i q hq
    exact slices_IndexFunc_shape_Check_1_e6 k vs bs r (hq.trans (congrArg some h))
  cases h
theorem slices_IndexFunc_shape_Check_1_cuts : ∀ p ∈ cuts Try.prog (lkΓ [(38, shape_Check_1_S)]) Try.f64.ntmps [(6, [0, 1, 7, 8])] (bodyOf Try.f64) (κ0 Try.prog Try.f64 false [⟨false, .int⟩]), CutOk slices_IndexFunc_shape_Check_1_Λ p := cutsOk (l := slices_IndexFunc_shape_Check_1_C) (n := 1) (by kernel_rfl) fun
  | 0, _ => slices_IndexFunc_shape_Check_1_d6
  | k + 1, h => absurd h (by omega)
set_option maxHeartbeats 0 in
set_option maxRecDepth 5000000 in
theorem slices_IndexFunc_shape_Check_1_z6 (vs : List SV) (bs : List Blk) (q : Option (Int)) (h : slices_IndexFunc_shape_Check_1_P6v0 0 vs bs = some q) : q = none := by
  unfold slices_IndexFunc_shape_Check_1_P6v0 at h; split at h
  · have h := Option.some.inj h; rw [← h]; first | rfl | (unfold slices_IndexFunc_shape_Check_1_L6; rfl)
  · cases h
theorem slices_IndexFunc_shape_Check_1_Λ0 (L : Nat) (vs : List SV) (bs : List Blk) : slices_IndexFunc_shape_Check_1_Λ 0 L vs bs = none := by
  unfold slices_IndexFunc_shape_Check_1_Λ
  split
  · unfold slices_IndexFunc_shape_Check_1_P6
    split
    · rename_i q hq; exact slices_IndexFunc_shape_Check_1_z6 _ _ q hq
    rfl
  rfl
set_option maxRecDepth 5000000 in
theorem slices_IndexFunc_shape_Check_1_run (K : Nat) (x : Tup [⟨false, (.sl .int)⟩, ⟨false, (.fn 38)⟩]) : (pxFn Try.prog (lkΓ [(38, shape_Check_1_S)]) [(6, [0, 1, 7, 8])] Try.f64 (bodyOf Try.f64) false [⟨false, .int⟩] (encTup [⟨false, (.sl .int)⟩, ⟨false, (.fn 38)⟩] x)).run (slices_IndexFunc_shape_Check_1_Λ K) = slices_IndexFunc_shape_Check_1_K K x := by kernel_rfl
set_option maxHeartbeats 0 in
set_option maxRecDepth 5000000 in
def slices_Repeat_P18v0 (k : Nat) (vs : List SV) (bs : List Blk) : Option (Option (List Int)) := match vs, bs with
  | [.val (.one (.row 0)), .val (.one (.int .i64 p0))], [.row .int p1] => some (slices_Repeat_L18 k p0 p1)
  | _, _ => none
def slices_Repeat_P18 (k : Nat) (vs : List SV) (bs : List Blk) : Option (List Int) := match slices_Repeat_P18v0 k vs bs with | some r => r | none => none
def slices_Repeat_Λ (k L : Nat) (vs : List SV) (bs : List Blk) : Option (List Int) := match Nat.beq L 18 with | true => slices_Repeat_P18 k vs bs | false => none
noncomputable def slices_Repeat_C : List (Cut (Tup [⟨false, (.sl .int)⟩])) := cuts Try.prog (lkΓ [(77, math_bits_Mul_S), (flagK, flagS)]) Try.f65.ntmps [(18, [7, 8])] (bodyOf Try.f65) (κ0 Try.prog Try.f65 true [⟨false, (.sl .int)⟩])
set_option maxRecDepth 5000000 in
theorem slices_Repeat_c18 (k : Nat) (p0 : Int) (p1 : List Int) : ((nthC slices_Repeat_C 0).g (mkSt [7, 8] [.val (.one (.row 0)), .val (.one (.int .i64 p0))] [.row .int p1])).run (slices_Repeat_Λ k) = slices_Repeat_L18 (k + 1) p0 p1 := by kernel_rfl
set_option maxHeartbeats 0 in
set_option maxRecDepth 5000000 in
theorem slices_Repeat_e18 (k : Nat) (vs : List SV) (bs : List Blk) (r : (List Int)) (h : slices_Repeat_P18v0 (k + 1) vs bs = some (some r)) : ((nthC slices_Repeat_C 0).g (mkSt [7, 8] vs bs)).run (slices_Repeat_Λ k) = some r := by
  unfold slices_Repeat_P18v0 at h
  split at h
  · exact (slices_Repeat_c18 k _ _).trans (Option.some.inj h)
  · cases h
theorem slices_Repeat_d18 : CutOk slices_Repeat_Λ (nthC slices_Repeat_C 0) := by
  refine cutOk_of (L := 18) (live := [7, 8]) (by kernel_rfl) (by kernel_rfl) fun k vs bs r h => ?_
  change slices_Repeat_P18 (k + 1) vs bs = some r at h
  unfold slices_Repeat_P18 at h
  split at h
  · rename_i q hq
    exact slices_Repeat_e18 k vs bs r (hq.trans (congrArg some h))
  cases h
theorem slices_Repeat_cuts : ∀ p ∈ cuts Try.prog (lkΓ [(77, math_bits_Mul_S), (flagK, flagS)]) Try.f65.ntmps [(18, [7, 8])] (bodyOf Try.f65) (κ0 Try.prog Try.f65 true [⟨false, (.sl .int)⟩]), CutOk slices_Repeat_Λ p := cutsOk (l := slices_Repeat_C) (n := 1) (by kernel_rfl) fun
  | 0, _ => slices_Repeat_d18
  | k + 1, h => absurd h (by omega)
set_option maxHeartbeats 0 in
set_option maxRecDepth 5000000 in
theorem slices_Repeat_z18 (vs : List SV) (bs : List Blk) (q : Option ((List Int))) (h : slices_Repeat_P18v0 0 vs bs = some q) : q = none := by
  unfold slices_Repeat_P18v0 at h; split at h
  · have h := Option.some.inj h; rw [← h]; first | rfl | (unfold slices_Repeat_L18; rfl)
  · cases h
theorem slices_Repeat_Λ0 (L : Nat) (vs : List SV) (bs : List Blk) : slices_Repeat_Λ 0 L vs bs = none := by
  unfold slices_Repeat_Λ
  split
  · unfold slices_Repeat_P18
    split
    · rename_i q hq; exact slices_Repeat_z18 _ _ q hq
    rfl
  rfl
set_option maxRecDepth 5000000 in
theorem slices_Repeat_run (K : Nat) (x : Tup [⟨false, (.sl .int)⟩, ⟨false, .int⟩]) : (pxFn Try.prog (lkΓ [(77, math_bits_Mul_S), (flagK, flagS)]) [(18, [7, 8])] Try.f65 (bodyOf Try.f65) true [⟨false, (.sl .int)⟩] (encTup [⟨false, (.sl .int)⟩, ⟨false, .int⟩] x)).run (slices_Repeat_Λ K) = slices_Repeat_K K x := by kernel_rfl
set_option maxRecDepth 5000000 in
theorem arena_Take_run (x : Tup [⟨true, (.pair (.sl .int) (.pair (.sl .int) (.pair (.pair (.pair (.sl .int) (.pair (.sl .int) (.pair (.sl .int) (.sl .int)))) (.pair (.pair (.sl .int) (.pair (.sl .int) (.pair (.sl .int) (.sl .int)))) (.pair (.sl .int) (.pair (.sl .int) (.pair (.sl .int) (.sl .int)))))) (.pair .int (.sl .int)))))⟩, ⟨false, .int⟩]) : (pxFn Try.prog (lkΓ [(69, arena_may_S), (74, pool_Take_S)]) [] Try.f60 (bodyOf Try.f60) false [⟨true, (.pair (.sl .int) (.pair (.sl .int) (.pair (.pair (.pair (.sl .int) (.pair (.sl .int) (.pair (.sl .int) (.sl .int)))) (.pair (.pair (.sl .int) (.pair (.sl .int) (.pair (.sl .int) (.sl .int)))) (.pair (.sl .int) (.pair (.sl .int) (.pair (.sl .int) (.sl .int)))))) (.pair .int (.sl .int)))))⟩, ⟨false, .int⟩, ⟨false, .int⟩] (encTup [⟨true, (.pair (.sl .int) (.pair (.sl .int) (.pair (.pair (.pair (.sl .int) (.pair (.sl .int) (.pair (.sl .int) (.sl .int)))) (.pair (.pair (.sl .int) (.pair (.sl .int) (.pair (.sl .int) (.sl .int)))) (.pair (.sl .int) (.pair (.sl .int) (.pair (.sl .int) (.sl .int)))))) (.pair .int (.sl .int)))))⟩, ⟨false, .int⟩] x)).run (fun _ _ _ => none) = arena_Take x := by kernel_rfl
theorem arena_Take_cuts : ∀ p ∈ cuts Try.prog (lkΓ [(69, arena_may_S), (74, pool_Take_S)]) Try.f60.ntmps [] (bodyOf Try.f60) (κ0 Try.prog Try.f60 false [⟨true, (.pair (.sl .int) (.pair (.sl .int) (.pair (.pair (.pair (.sl .int) (.pair (.sl .int) (.pair (.sl .int) (.sl .int)))) (.pair (.pair (.sl .int) (.pair (.sl .int) (.pair (.sl .int) (.sl .int)))) (.pair (.sl .int) (.pair (.sl .int) (.pair (.sl .int) (.sl .int)))))) (.pair .int (.sl .int)))))⟩, ⟨false, .int⟩, ⟨false, .int⟩]), CutOk (fun _ _ _ _ => none) p := cutsNil (by kernel_rfl)
set_option maxRecDepth 5000000 in
theorem ask_touch_run (x : Tup [⟨true, (.pair (.sl .int) (.pair (.sl .int) (.pair (.pair (.pair (.sl .int) (.pair (.sl .int) (.pair (.sl .int) (.sl .int)))) (.pair (.pair (.sl .int) (.pair (.sl .int) (.pair (.sl .int) (.sl .int)))) (.pair (.sl .int) (.pair (.sl .int) (.pair (.sl .int) (.sl .int)))))) (.pair .int (.sl .int)))))⟩, ⟨false, .int⟩, ⟨true, (.pair .int (.pair .int (.pair .int (.pair .int (.pair .int .int)))))⟩]) : (pxFn Try.prog (lkΓ [(19, tag_Unpack_S), (53, arena_Gen_S)]) [] Try.f31 (bodyOf Try.f31) true [⟨false, (.sl (.pair .int (.pair .int (.pair .int (.pair .int (.pair .int (.pair .int (.pair .int .bool))))))))⟩] (encTup [⟨true, (.pair (.sl .int) (.pair (.sl .int) (.pair (.pair (.pair (.sl .int) (.pair (.sl .int) (.pair (.sl .int) (.sl .int)))) (.pair (.pair (.sl .int) (.pair (.sl .int) (.pair (.sl .int) (.sl .int)))) (.pair (.sl .int) (.pair (.sl .int) (.pair (.sl .int) (.sl .int)))))) (.pair .int (.sl .int)))))⟩, ⟨false, .int⟩, ⟨true, (.pair .int (.pair .int (.pair .int (.pair .int (.pair .int .int)))))⟩] x)).run (fun _ _ _ => none) = ask_touch x := by kernel_rfl
theorem ask_touch_cuts : ∀ p ∈ cuts Try.prog (lkΓ [(19, tag_Unpack_S), (53, arena_Gen_S)]) Try.f31.ntmps [] (bodyOf Try.f31) (κ0 Try.prog Try.f31 true [⟨false, (.sl (.pair .int (.pair .int (.pair .int (.pair .int (.pair .int (.pair .int (.pair .int .bool))))))))⟩]), CutOk (fun _ _ _ _ => none) p := cutsNil (by kernel_rfl)
set_option maxRecDepth 5000000 in
theorem ask_has_run (x : Tup [⟨true, (.pair (.sl .int) (.pair (.sl .int) (.pair (.pair (.pair (.sl .int) (.pair (.sl .int) (.pair (.sl .int) (.sl .int)))) (.pair (.pair (.sl .int) (.pair (.sl .int) (.pair (.sl .int) (.sl .int)))) (.pair (.sl .int) (.pair (.sl .int) (.pair (.sl .int) (.sl .int)))))) (.pair .int (.sl .int)))))⟩, ⟨false, .int⟩]) : (pxFn Try.prog (lkΓ []) [] Try.f27 (bodyOf Try.f27) false [⟨false, .bool⟩] (encTup [⟨true, (.pair (.sl .int) (.pair (.sl .int) (.pair (.pair (.pair (.sl .int) (.pair (.sl .int) (.pair (.sl .int) (.sl .int)))) (.pair (.pair (.sl .int) (.pair (.sl .int) (.pair (.sl .int) (.sl .int)))) (.pair (.sl .int) (.pair (.sl .int) (.pair (.sl .int) (.sl .int)))))) (.pair .int (.sl .int)))))⟩, ⟨false, .int⟩] x)).run (fun _ _ _ => none) = ask_has x := by kernel_rfl
theorem ask_has_cuts : ∀ p ∈ cuts Try.prog (lkΓ []) Try.f27.ntmps [] (bodyOf Try.f27) (κ0 Try.prog Try.f27 false [⟨false, .bool⟩]), CutOk (fun _ _ _ _ => none) p := cutsNil (by kernel_rfl)
set_option maxRecDepth 5000000 in
theorem chain_Field_run (x : Tup [⟨true, (.pair .int (.pair .int (.pair .int (.pair .int .int))))⟩, ⟨false, (.sl .int)⟩, ⟨false, .int⟩, ⟨false, .int⟩, ⟨false, .int⟩]) : (pxFn Try.prog (lkΓ [(50, mem_Load_S), (66, chain_where_S)]) [] Try.f49 (bodyOf Try.f49) false [⟨false, .int⟩, ⟨false, .int⟩] (encTup [⟨true, (.pair .int (.pair .int (.pair .int (.pair .int .int))))⟩, ⟨false, (.sl .int)⟩, ⟨false, .int⟩, ⟨false, .int⟩, ⟨false, .int⟩] x)).run (fun _ _ _ => none) = chain_Field x := by kernel_rfl
theorem chain_Field_cuts : ∀ p ∈ cuts Try.prog (lkΓ [(50, mem_Load_S), (66, chain_where_S)]) Try.f49.ntmps [] (bodyOf Try.f49) (κ0 Try.prog Try.f49 false [⟨false, .int⟩, ⟨false, .int⟩]), CutOk (fun _ _ _ _ => none) p := cutsNil (by kernel_rfl)
set_option maxRecDepth 5000000 in
theorem slices_ContainsFunc_shape_Check_1_run (x : Tup [⟨false, (.sl .int)⟩, ⟨false, (.fn 38)⟩]) : (pxFn Try.prog (lkΓ [(39000064, slices_IndexFunc_shape_Check_1_S)]) [] Try.f37 (bodyOf Try.f37) false [⟨false, .bool⟩] (encTup [⟨false, (.sl .int)⟩, ⟨false, (.fn 38)⟩] x)).run (fun _ _ _ => none) = slices_ContainsFunc_shape_Check_1 x := by kernel_rfl
theorem slices_ContainsFunc_shape_Check_1_cuts : ∀ p ∈ cuts Try.prog (lkΓ [(39000064, slices_IndexFunc_shape_Check_1_S)]) Try.f37.ntmps [] (bodyOf Try.f37) (κ0 Try.prog Try.f37 false [⟨false, .bool⟩]), CutOk (fun _ _ _ _ => none) p := cutsNil (by kernel_rfl)
set_option maxRecDepth 5000000 in
theorem tendrilref03_Cap_run (x : Tup [⟨true, (.pair .int (.pair .int (.pair .int (.pair .int .int))))⟩, ⟨false, .int⟩]) : (pxFn Try.prog (lkΓ []) [] Try.f45 (bodyOf Try.f45) false [⟨false, .int⟩, ⟨false, .int⟩] (encTup [⟨true, (.pair .int (.pair .int (.pair .int (.pair .int .int))))⟩, ⟨false, .int⟩] x)).run (fun _ _ _ => none) = tendrilref03_Cap x := by kernel_rfl
theorem tendrilref03_Cap_cuts : ∀ p ∈ cuts Try.prog (lkΓ []) Try.f45.ntmps [] (bodyOf Try.f45) (κ0 Try.prog Try.f45 false [⟨false, .int⟩, ⟨false, .int⟩]), CutOk (fun _ _ _ _ => none) p := cutsNil (by kernel_rfl)
set_option maxRecDepth 5000000 in
theorem math_bits_Mul64_run (x : Tup [⟨false, (.num .u64)⟩, ⟨false, (.num .u64)⟩]) : (pxFn Try.prog (lkΓ []) [] Try.f88 (bodyOf Try.f88) false [⟨false, (.num .u64)⟩, ⟨false, (.num .u64)⟩] (encTup [⟨false, (.num .u64)⟩, ⟨false, (.num .u64)⟩] x)).run (fun _ _ _ => none) = math_bits_Mul64 x := by kernel_rfl
theorem math_bits_Mul64_cuts : ∀ p ∈ cuts Try.prog (lkΓ []) Try.f88.ntmps [] (bodyOf Try.f88) (κ0 Try.prog Try.f88 false [⟨false, (.num .u64)⟩, ⟨false, (.num .u64)⟩]), CutOk (fun _ _ _ _ => none) p := cutsNil (by kernel_rfl)
set_option maxRecDepth 5000000 in
theorem tendrillaw16_plain_run (x : Tup []) : (pxFn Try.prog (lkΓ []) [] Try.f20 (bodyOf Try.f20) false [⟨true, (.pair .int (.pair .int (.pair .int (.pair .int .int))))⟩] (encTup [] x)).run (fun _ _ _ => none) = tendrillaw16_plain x := by kernel_rfl
theorem tendrillaw16_plain_cuts : ∀ p ∈ cuts Try.prog (lkΓ []) Try.f20.ntmps [] (bodyOf Try.f20) (κ0 Try.prog Try.f20 false [⟨true, (.pair .int (.pair .int (.pair .int (.pair .int .int))))⟩]), CutOk (fun _ _ _ _ => none) p := cutsNil (by kernel_rfl)
set_option maxRecDepth 5000000 in
theorem tag_Unpack_run (x : Tup [⟨false, .int⟩]) : (pxFn Try.prog (lkΓ []) [] Try.f19 (bodyOf Try.f19) false [⟨false, .int⟩, ⟨false, .int⟩, ⟨false, .int⟩] (encTup [⟨false, .int⟩] x)).run (fun _ _ _ => none) = tag_Unpack x := by kernel_rfl
theorem tag_Unpack_cuts : ∀ p ∈ cuts Try.prog (lkΓ []) Try.f19.ntmps [] (bodyOf Try.f19) (κ0 Try.prog Try.f19 false [⟨false, .int⟩, ⟨false, .int⟩, ⟨false, .int⟩]), CutOk (fun _ _ _ _ => none) p := cutsNil (by kernel_rfl)
end Go.Proofs.YtcoiboghdmmdcadFn
