/- What the interpreter of code computes of these functions, part 6; no condition. -/
import Derived.Test.YtcoiboghdmmdcacProg
import Derived.KernelRfl
import Derived.Test.YtcoiboghdmmdcacPx25
import Derived.Test.YtcoiboghdmmdcacFnsD
set_option linter.unusedVariables false
set_option linter.unusedSimpArgs false
namespace Go.Proofs.YtcoiboghdmmdcacFn
open Go Go.RowKit Go.Proofs.YtcoiboghdmmdcacPx
set_option maxHeartbeats 0 in
set_option maxRecDepth 5000000 in
def tendrilref07_Same_P6v0 (k : Nat) (vs : List SV) (bs : List Blk) : Option (Option (Bool)) := match vs, bs with
  | [.val (.one (.ptr 0 0)), .val (.one (.ptr 1 0)), .val (.one (.int .i64 p0))], [.box [(.sl .int p1), (.sl .int p2), (.sl .int p3), (.sl .int p4), (.sl .int p5), (.sl .int p6), (.sl .int p7), (.sl .int p8), (.sl .int p9), (.sl .int p10), (.sl .int p11), (.sl .int p12), (.sl .int p13), (.sl .int p14), (.int .i64 p15), (.sl .int p16)], .box [(.sl .int p17), (.sl .int p18), (.sl .int p19), (.sl .int p20), (.sl .int p21), (.sl .int p22), (.sl .int p23), (.sl .int p24), (.sl .int p25), (.sl .int p26), (.sl .int p27), (.sl .int p28), (.sl .int p29), (.sl .int p30), (.int .i64 p31), (.sl .int p32)]] => some (tendrilref07_Same_L6 k p0 p1 p2 p3 p4 p5 p6 p7 p8 p9 p10 p11 p12 p13 p14 p15 p16 p17 p18 p19 p20 p21 p22 p23 p24 p25 p26 p27 p28 p29 p30 p31 p32)
  | _, _ => none
def tendrilref07_Same_P6 (k : Nat) (vs : List SV) (bs : List Blk) : Option (Bool) := match tendrilref07_Same_P6v0 k vs bs with | some r => r | none => none
def tendrilref07_Same_Λ (k L : Nat) (vs : List SV) (bs : List Blk) : Option (Bool) := match Nat.beq L 6 with | true => tendrilref07_Same_P6 k vs bs | false => none
noncomputable def tendrilref07_Same_C : List (Cut (Tup [⟨false, .bool⟩])) := cuts Try.prog (lkΓ [(18, tendrilref05_Same_S), (19, tendrilref06_Same_S), (41, tendrilref02_Same_S)]) Try.f13.ntmps [(6, [2, 3, 6])] (bodyOf Try.f13) (κ0 Try.prog Try.f13 false [⟨false, .bool⟩])
set_option maxRecDepth 5000000 in
theorem tendrilref07_Same_c6 (k : Nat) (p0 : Int) (p1 : List Int) (p2 : List Int) (p3 : List Int) (p4 : List Int) (p5 : List Int) (p6 : List Int) (p7 : List Int) (p8 : List Int) (p9 : List Int) (p10 : List Int) (p11 : List Int) (p12 : List Int) (p13 : List Int) (p14 : List Int) (p15 : Int) (p16 : List Int) (p17 : List Int) (p18 : List Int) (p19 : List Int) (p20 : List Int) (p21 : List Int) (p22 : List Int) (p23 : List Int) (p24 : List Int) (p25 : List Int) (p26 : List Int) (p27 : List Int) (p28 : List Int) (p29 : List Int) (p30 : List Int) (p31 : Int) (p32 : List Int) : ((nthC tendrilref07_Same_C 0).g (mkSt [2, 3, 6] [.val (.one (.ptr 0 0)), .val (.one (.ptr 1 0)), .val (.one (.int .i64 p0))] [.box [(.sl .int p1), (.sl .int p2), (.sl .int p3), (.sl .int p4), (.sl .int p5), (.sl .int p6), (.sl .int p7), (.sl .int p8), (.sl .int p9), (.sl .int p10), (.sl .int p11), (.sl .int p12), (.sl .int p13), (.sl .int p14), (.int .i64 p15), (.sl .int p16)], .box [(.sl .int p17), (.sl .int p18), (.sl .int p19), (.sl .int p20), (.sl .int p21), (.sl .int p22), (.sl .int p23), (.sl .int p24), (.sl .int p25), (.sl .int p26), (.sl .int p27), (.sl .int p28), (.sl .int p29), (.sl .int p30), (.int .i64 p31), (.sl .int p32)]])).run (tendrilref07_Same_Λ k) = tendrilref07_Same_L6 (k + 1) p0 p1 p2 p3 p4 p5 p6 p7 p8 p9 p10 p11 p12 p13 p14 p15 p16 p17 p18 p19 p20 p21 p22 p23 p24 p25 p26 p27 p28 p29 p30 p31 p32 := by kernel_rfl
set_option maxHeartbeats 0 in
set_option maxRecDepth 5000000 in
theorem tendrilref07_Same_e6 (k : Nat) (vs : List SV) (bs : List Blk) (r : Bool) (h : tendrilref07_Same_P6v0 (k + 1) vs bs = some (some r)) : ((nthC tendrilref07_Same_C 0).g (mkSt [2, 3, 6] vs bs)).run (tendrilref07_Same_Λ k) = some r := by
  unfold tendrilref07_Same_P6v0 at h
  split at h
  · exact (tendrilref07_Same_c6 k _ _ _ _ _ _ _ _ _ _ _ _ _ _ _ _ _ _ _ _ _ _ _ _ _ _ _ _ _ _ _ _ _).trans (Option.some.inj h)
  · cases h
theorem tendrilref07_Same_d6 : CutOk tendrilref07_Same_Λ (nthC tendrilref07_Same_C 0) := by
  refine cutOk_of (L := 6) (live := [2, 3, 6]) (by kernel_rfl) (by kernel_rfl) fun k vs bs r h => ?_
  change tendrilref07_Same_P6 (k + 1) vs bs = some r at h
  unfold tendrilref07_Same_P6 at h
  split at h
  · rename_i q hq
    exact tendrilref07_Same_e6 k vs bs r (hq.trans (congrArg some h))
  cases h
theorem tendrilref07_Same_cuts : ∀ p ∈ cuts Try.prog (lkΓ [(18, tendrilref05_Same_S), (19, tendrilref06_Same_S), (41, tendrilref02_Same_S)]) Try.f13.ntmps [(6, [2, 3, 6])] (bodyOf Try.f13) (κ0 Try.prog Try.f13 false [⟨false, .bool⟩]), CutOk tendrilref07_Same_Λ p := cutsOk (l := tendrilref07_Same_C) (n := 1) (by kernel_rfl) fun
  | 0, _ => tendrilref07_Same_d6
  | k + 1, h => absurd h (by omega)
set_option maxHeartbeats 0 in
set_option maxRecDepth 5000000 in
theorem tendrilref07_Same_z6 (vs : List SV) (bs : List Blk) (q : Option (Bool)) (h : tendrilref07_Same_P6v0 0 vs bs = some q) : q = none := by
  unfold tendrilref07_Same_P6v0 at h; split at h
  · have h := Option.some.inj h; rw [← h]; first | rfl | (unfold tendrilref07_Same_L6; rfl)
  · cases h
theorem tendrilref07_Same_Λ0 (L : Nat) (vs : List SV) (bs : List Blk) : tendrilref07_Same_Λ 0 L vs bs = none := by
  unfold tendrilref07_Same_Λ
  split
  · unfold tendrilref07_Same_P6
    split
    · rename_i q hq; exact tendrilref07_Same_z6 _ _ q hq
    rfl
  rfl
set_option maxRecDepth 5000000 in
theorem tendrilref07_Same_run (K : Nat) (x : Tup [⟨true, (.pair (.sl .int) (.pair (.sl .int) (.pair (.pair (.pair (.sl .int) (.pair (.sl .int) (.pair (.sl .int) (.sl .int)))) (.pair (.pair (.sl .int) (.pair (.sl .int) (.pair (.sl .int) (.sl .int)))) (.pair (.sl .int) (.pair (.sl .int) (.pair (.sl .int) (.sl .int)))))) (.pair .int (.sl .int)))))⟩, ⟨true, (.pair (.sl .int) (.pair (.sl .int) (.pair (.pair (.pair (.sl .int) (.pair (.sl .int) (.pair (.sl .int) (.sl .int)))) (.pair (.pair (.sl .int) (.pair (.sl .int) (.pair (.sl .int) (.sl .int)))) (.pair (.sl .int) (.pair (.sl .int) (.pair (.sl .int) (.sl .int)))))) (.pair .int (.sl .int)))))⟩]) : (pxFn Try.prog (lkΓ [(18, tendrilref05_Same_S), (19, tendrilref06_Same_S), (41, tendrilref02_Same_S)]) [(6, [2, 3, 6])] Try.f13 (bodyOf Try.f13) false [⟨false, .bool⟩] (encTup [⟨true, (.pair (.sl .int) (.pair (.sl .int) (.pair (.pair (.pair (.sl .int) (.pair (.sl .int) (.pair (.sl .int) (.sl .int)))) (.pair (.pair (.sl .int) (.pair (.sl .int) (.pair (.sl .int) (.sl .int)))) (.pair (.sl .int) (.pair (.sl .int) (.pair (.sl .int) (.sl .int)))))) (.pair .int (.sl .int)))))⟩, ⟨true, (.pair (.sl .int) (.pair (.sl .int) (.pair (.pair (.pair (.sl .int) (.pair (.sl .int) (.pair (.sl .int) (.sl .int)))) (.pair (.pair (.sl .int) (.pair (.sl .int) (.pair (.sl .int) (.sl .int)))) (.pair (.sl .int) (.pair (.sl .int) (.pair (.sl .int) (.sl .int)))))) (.pair .int (.sl .int)))))⟩] x)).run (tendrilref07_Same_Λ K) = tendrilref07_Same_K K x := by kernel_rfl
set_option maxHeartbeats 0 in
set_option maxRecDepth 5000000 in
def tendrilref05_New_P12v0 (k : Nat) (vs : List SV) (bs : List Blk) : Option (Option ((List Int × List Int × List Int × List Int) × Int)) := match vs, bs with
  | [.val (.one (.ptr 0 0)), .val (.one (.ptr 1 0)), .val (.one (.int .i64 p0)), .val (.one (.int .i64 p1))], [.box [.nil, .nil, .nil, .nil], .box [(.row 2), (.row 3), (.row 4), .nil], .row .int p2, .row .int p3, .row .int p4] => some (tendrilref05_New_L12 k p0 p1 p2 p3 p4)
  | _, _ => none
set_option maxHeartbeats 0 in
set_option maxRecDepth 5000000 in
def tendrilref05_New_P12v1 (k : Nat) (vs : List SV) (bs : List Blk) : Option (Option ((List Int × List Int × List Int × List Int) × Int)) := match vs, bs with
  | [.val (.one (.ptr 0 0)), .val (.one (.ptr 1 0)), .val (.one (.int .i64 p0)), .val (.one (.int .i64 p1))], [.box [.nil, .nil, .nil, .nil], .box [(.row 2), (.row 3), (.row 4), (.row 5)], .row .int p2, .row .int p3, .row .int p4, .row .int p5] => some (tendrilref05_New_L12x1 k p0 p1 p2 p3 p4 p5)
  | _, _ => none
def tendrilref05_New_P12 (k : Nat) (vs : List SV) (bs : List Blk) : Option ((List Int × List Int × List Int × List Int) × Int) := match tendrilref05_New_P12v0 k vs bs with | some r => r | none => match tendrilref05_New_P12v1 k vs bs with | some r => r | none => none
def tendrilref05_New_Λ (k L : Nat) (vs : List SV) (bs : List Blk) : Option ((List Int × List Int × List Int × List Int) × Int) := match Nat.beq L 12 with | true => tendrilref05_New_P12 k vs bs | false => none
noncomputable def tendrilref05_New_C : List (Cut (Tup [⟨true, (.pair (.sl .int) (.pair (.sl .int) (.pair (.sl .int) (.sl .int))))⟩, ⟨false, .int⟩])) := cuts Try.prog (lkΓ []) Try.f40.ntmps [(12, [2, 4, 20, 21])] (bodyOf Try.f40) (κ0 Try.prog Try.f40 true [⟨true, (.pair (.sl .int) (.pair (.sl .int) (.pair (.sl .int) (.sl .int))))⟩, ⟨false, .int⟩])
set_option maxRecDepth 5000000 in
theorem tendrilref05_New_c12 (k : Nat) (p0 : Int) (p1 : Int) (p2 : List Int) (p3 : List Int) (p4 : List Int) : ((nthC tendrilref05_New_C 0).g (mkSt [2, 4, 20, 21] [.val (.one (.ptr 0 0)), .val (.one (.ptr 1 0)), .val (.one (.int .i64 p0)), .val (.one (.int .i64 p1))] [.box [.nil, .nil, .nil, .nil], .box [(.row 2), (.row 3), (.row 4), .nil], .row .int p2, .row .int p3, .row .int p4])).run (tendrilref05_New_Λ k) = tendrilref05_New_L12 (k + 1) p0 p1 p2 p3 p4 := by kernel_rfl
set_option maxHeartbeats 0 in
set_option maxRecDepth 5000000 in
theorem tendrilref05_New_e12 (k : Nat) (vs : List SV) (bs : List Blk) (r : ((List Int) × ((List Int) × ((List Int) × (List Int)))) × Int) (h : tendrilref05_New_P12v0 (k + 1) vs bs = some (some r)) : ((nthC tendrilref05_New_C 0).g (mkSt [2, 4, 20, 21] vs bs)).run (tendrilref05_New_Λ k) = some r := by
  unfold tendrilref05_New_P12v0 at h
  split at h
  · exact (tendrilref05_New_c12 k _ _ _ _ _).trans (Option.some.inj h)
  · cases h
set_option maxRecDepth 5000000 in
theorem tendrilref05_New_c12x1 (k : Nat) (p0 : Int) (p1 : Int) (p2 : List Int) (p3 : List Int) (p4 : List Int) (p5 : List Int) : ((nthC tendrilref05_New_C 0).g (mkSt [2, 4, 20, 21] [.val (.one (.ptr 0 0)), .val (.one (.ptr 1 0)), .val (.one (.int .i64 p0)), .val (.one (.int .i64 p1))] [.box [.nil, .nil, .nil, .nil], .box [(.row 2), (.row 3), (.row 4), (.row 5)], .row .int p2, .row .int p3, .row .int p4, .row .int p5])).run (tendrilref05_New_Λ k) = tendrilref05_New_L12x1 (k + 1) p0 p1 p2 p3 p4 p5 := by kernel_rfl
set_option maxHeartbeats 0 in
set_option maxRecDepth 5000000 in
theorem tendrilref05_New_e12x1 (k : Nat) (vs : List SV) (bs : List Blk) (r : ((List Int) × ((List Int) × ((List Int) × (List Int)))) × Int) (h : tendrilref05_New_P12v1 (k + 1) vs bs = some (some r)) : ((nthC tendrilref05_New_C 0).g (mkSt [2, 4, 20, 21] vs bs)).run (tendrilref05_New_Λ k) = some r := by
  unfold tendrilref05_New_P12v1 at h
  split at h
  · exact (tendrilref05_New_c12x1 k _ _ _ _ _ _).trans (Option.some.inj h)
  · cases h
theorem tendrilref05_New_d12 : CutOk tendrilref05_New_Λ (nthC tendrilref05_New_C 0) := by
  refine cutOk_of (L := 12) (live := [2, 4, 20, 21]) (by kernel_rfl) (by kernel_rfl) fun k vs bs r h => ?_
  change tendrilref05_New_P12 (k + 1) vs bs = some r at h
  unfold tendrilref05_New_P12 at h
  split at h
  · rename_i q hq
    exact tendrilref05_New_e12 k vs bs r (hq.trans (congrArg some h))
  split at h
  · rename_i q hq
    exact tendrilref05_New_e12x1 k vs bs r (hq.trans (congrArg some h))
  cases h
theorem tendrilref05_New_cuts : ∀ p ∈ cuts Try.prog (lkΓ []) Try.f40.ntmps [(12, [2, 4, 20, 21])] (bodyOf Try.f40) (κ0 Try.prog Try.f40 true [⟨true, (.pair (.sl .int) (.pair (.sl .int) (.pair (.sl .int) (.sl .int))))⟩, ⟨false, .int⟩]), CutOk tendrilref05_New_Λ p := cutsOk (l := tendrilref05_New_C) (n := 1) (by kernel_rfl) fun
  | 0, _ => tendrilref05_New_d12
  | k + 1, h => absurd h (by omega)
set_option maxHeartbeats 0 in
set_option maxRecDepth 5000000 in
theorem tendrilref05_New_z12 (vs : List SV) (bs : List Blk) (q : Option (((List Int) × ((List Int) × ((List Int) × (List Int)))) × Int)) (h : tendrilref05_New_P12v0 0 vs bs = some q) : q = none := by
  unfold tendrilref05_New_P12v0 at h; split at h
  · have h := Option.some.inj h; rw [← h]; first | rfl | (unfold tendrilref05_New_L12; rfl)
  · cases h
set_option maxHeartbeats 0 in
set_option maxRecDepth 5000000 in
theorem tendrilref05_New_z12x1 (vs : List SV) (bs : List Blk) (q : Option (((List Int) × ((List Int) × ((List Int) × (List Int)))) × Int)) (h : tendrilref05_New_P12v1 0 vs bs = some q) : q = none := by
  unfold tendrilref05_New_P12v1 at h; split at h
  · have h := Option.some.inj h; rw [← h]; first | rfl | (unfold tendrilref05_New_L12x1; rfl)
  · cases h
theorem tendrilref05_New_Λ0 (L : Nat) (vs : List SV) (bs : List Blk) : tendrilref05_New_Λ 0 L vs bs = none := by
  unfold tendrilref05_New_Λ
  split
  · unfold tendrilref05_New_P12
    split
    · rename_i q hq; exact tendrilref05_New_z12 _ _ q hq
    split
    · rename_i q hq; exact tendrilref05_New_z12x1 _ _ q hq
    rfl
  rfl
set_option maxRecDepth 5000000 in
theorem tendrilref05_New_run (K : Nat) (x : Tup [⟨false, .int⟩]) : (pxFn Try.prog (lkΓ []) [(12, [2, 4, 20, 21])] Try.f40 (bodyOf Try.f40) true [⟨true, (.pair (.sl .int) (.pair (.sl .int) (.pair (.sl .int) (.sl .int))))⟩, ⟨false, .int⟩] (encTup [⟨false, .int⟩] x)).run (tendrilref05_New_Λ K) = tendrilref05_New_K K x := by kernel_rfl
set_option maxHeartbeats 0 in
set_option maxRecDepth 5000000 in
def tendrilref07_Check_P6v0 (k : Nat) (vs : List SV) (bs : List Blk) : Option (Option (Int)) := match vs, bs with
  | [.val (.one (.ptr 0 0)), .val (.agg [(.sl .int p0), (.sl .int p1), (.sl .int p2), (.sl .int p3), (.sl .int p4), (.sl .int p5), (.sl .int p6), (.sl .int p7), (.sl .int p8), (.sl .int p9), (.sl .int p10), (.sl .int p11)]), .val (.one (.int .i64 p12))], [.box [(.sl .int p13), (.sl .int p14), (.sl .int p15), (.sl .int p16), (.sl .int p17), (.sl .int p18), (.sl .int p19), (.sl .int p20), (.sl .int p21), (.sl .int p22), (.sl .int p23), (.sl .int p24), (.sl .int p25), (.sl .int p26), (.int .i64 p27), (.sl .int p28)]] => some (tendrilref07_Check_L6 k p0 p1 p2 p3 p4 p5 p6 p7 p8 p9 p10 p11 p12 p13 p14 p15 p16 p17 p18 p19 p20 p21 p22 p23 p24 p25 p26 p27 p28)
  | _, _ => none
def tendrilref07_Check_P6 (k : Nat) (vs : List SV) (bs : List Blk) : Option (Int) := match tendrilref07_Check_P6v0 k vs bs with | some r => r | none => none
def tendrilref07_Check_Λ (k L : Nat) (vs : List SV) (bs : List Blk) : Option (Int) := match Nat.beq L 6 with | true => tendrilref07_Check_P6 k vs bs | false => none
noncomputable def tendrilref07_Check_C : List (Cut (Tup [⟨false, .int⟩])) := cuts Try.prog (lkΓ [(44, tendrilref05_Check_S), (45, tendrilref06_Check_S)]) Try.f15.ntmps [(6, [1, 6, 7])] (bodyOf Try.f15) (κ0 Try.prog Try.f15 false [⟨false, .int⟩])
set_option maxRecDepth 5000000 in
theorem tendrilref07_Check_c6 (k : Nat) (p0 : List Int) (p1 : List Int) (p2 : List Int) (p3 : List Int) (p4 : List Int) (p5 : List Int) (p6 : List Int) (p7 : List Int) (p8 : List Int) (p9 : List Int) (p10 : List Int) (p11 : List Int) (p12 : Int) (p13 : List Int) (p14 : List Int) (p15 : List Int) (p16 : List Int) (p17 : List Int) (p18 : List Int) (p19 : List Int) (p20 : List Int) (p21 : List Int) (p22 : List Int) (p23 : List Int) (p24 : List Int) (p25 : List Int) (p26 : List Int) (p27 : Int) (p28 : List Int) : ((nthC tendrilref07_Check_C 0).g (mkSt [1, 6, 7] [.val (.one (.ptr 0 0)), .val (.agg [(.sl .int p0), (.sl .int p1), (.sl .int p2), (.sl .int p3), (.sl .int p4), (.sl .int p5), (.sl .int p6), (.sl .int p7), (.sl .int p8), (.sl .int p9), (.sl .int p10), (.sl .int p11)]), .val (.one (.int .i64 p12))] [.box [(.sl .int p13), (.sl .int p14), (.sl .int p15), (.sl .int p16), (.sl .int p17), (.sl .int p18), (.sl .int p19), (.sl .int p20), (.sl .int p21), (.sl .int p22), (.sl .int p23), (.sl .int p24), (.sl .int p25), (.sl .int p26), (.int .i64 p27), (.sl .int p28)]])).run (tendrilref07_Check_Λ k) = tendrilref07_Check_L6 (k + 1) p0 p1 p2 p3 p4 p5 p6 p7 p8 p9 p10 p11 p12 p13 p14 p15 p16 p17 p18 p19 p20 p21 p22 p23 p24 p25 p26 p27 p28 := by kernel_rfl
set_option maxHeartbeats 0 in
set_option maxRecDepth 5000000 in
theorem tendrilref07_Check_e6 (k : Nat) (vs : List SV) (bs : List Blk) (r : Int) (h : tendrilref07_Check_P6v0 (k + 1) vs bs = some (some r)) : ((nthC tendrilref07_Check_C 0).g (mkSt [1, 6, 7] vs bs)).run (tendrilref07_Check_Λ k) = some r := by
  unfold tendrilref07_Check_P6v0 at h
  split at h
  · exact (tendrilref07_Check_c6 k _ _ _ _ _ _ _ _ _ _ _ _ _ _ _ _ _ _ _ _ _ _ _ _ _ _ _ _ _).trans (Option.some.inj h)
  · cases h
theorem tendrilref07_Check_d6 : CutOk tendrilref07_Check_Λ (nthC tendrilref07_Check_C 0) := by
  refine cutOk_of (L := 6) (live := [1, 6, 7]) (by kernel_rfl) (by kernel_rfl) fun k vs bs r h => ?_
  change tendrilref07_Check_P6 (k + 1) vs bs = some r at h
  unfold tendrilref07_Check_P6 at h
  split at h
  · rename_i q hq
    exact tendrilref07_Check_e6 k vs bs r (hq.trans (congrArg some h))
  cases h
theorem tendrilref07_Check_cuts : ∀ p ∈ cuts Try.prog (lkΓ [(44, tendrilref05_Check_S), (45, tendrilref06_Check_S)]) Try.f15.ntmps [(6, [1, 6, 7])] (bodyOf Try.f15) (κ0 Try.prog Try.f15 false [⟨false, .int⟩]), CutOk tendrilref07_Check_Λ p := cutsOk (l := tendrilref07_Check_C) (n := 1) (by kernel_rfl) fun
  | 0, _ => tendrilref07_Check_d6
  | k + 1, h => absurd h (by omega)
set_option maxHeartbeats 0 in
set_option maxRecDepth 5000000 in
theorem tendrilref07_Check_z6 (vs : List SV) (bs : List Blk) (q : Option (Int)) (h : tendrilref07_Check_P6v0 0 vs bs = some q) : q = none := by
  unfold tendrilref07_Check_P6v0 at h; split at h
  · have h := Option.some.inj h; rw [← h]; first | rfl | (unfold tendrilref07_Check_L6; rfl)
  · cases h
theorem tendrilref07_Check_Λ0 (L : Nat) (vs : List SV) (bs : List Blk) : tendrilref07_Check_Λ 0 L vs bs = none := by
  unfold tendrilref07_Check_Λ
  split
  · unfold tendrilref07_Check_P6
    split
    · rename_i q hq; exact tendrilref07_Check_z6 _ _ q hq
    rfl
  rfl
set_option maxRecDepth 5000000 in
theorem tendrilref07_Check_run (K : Nat) (x : Tup [⟨true, (.pair (.sl .int) (.pair (.sl .int) (.pair (.pair (.pair (.sl .int) (.pair (.sl .int) (.pair (.sl .int) (.sl .int)))) (.pair (.pair (.sl .int) (.pair (.sl .int) (.pair (.sl .int) (.sl .int)))) (.pair (.sl .int) (.pair (.sl .int) (.pair (.sl .int) (.sl .int)))))) (.pair .int (.sl .int)))))⟩]) : (pxFn Try.prog (lkΓ [(44, tendrilref05_Check_S), (45, tendrilref06_Check_S)]) [(6, [1, 6, 7])] Try.f15 (bodyOf Try.f15) false [⟨false, .int⟩] (encTup [⟨true, (.pair (.sl .int) (.pair (.sl .int) (.pair (.pair (.pair (.sl .int) (.pair (.sl .int) (.pair (.sl .int) (.sl .int)))) (.pair (.pair (.sl .int) (.pair (.sl .int) (.pair (.sl .int) (.sl .int)))) (.pair (.sl .int) (.pair (.sl .int) (.pair (.sl .int) (.sl .int)))))) (.pair .int (.sl .int)))))⟩] x)).run (tendrilref07_Check_Λ K) = tendrilref07_Check_K K x := by kernel_rfl
set_option maxHeartbeats 0 in
set_option maxRecDepth 5000000 in
def pool_Reclaim_P14v0 (k : Nat) (vs : List SV) (bs : List Blk) : Option (Option ((List Int × List Int × List Int × List Int) × Int)) := match vs, bs with
  | [.val (.one (.int .i64 p0)), .val (.one (.ptr 0 0)), .val (.one (.ptr 1 0)), .val (.one (.int .i64 p1)), .val (.one (.row 2)), .val (.one (.int .i64 p2)), .val (.one (.int .i64 p3))], [.box [(.row 3), (.row 2), (.row 4), (.row 5)], .box [.nil, .nil, .nil, .nil], .row .int p4, .row .int p5, .row .int p6, .row .int p7] => some (pool_Reclaim_L14 k p0 p1 p2 p3 p4 p5 p6 p7)
  | _, _ => none
def pool_Reclaim_P14 (k : Nat) (vs : List SV) (bs : List Blk) : Option ((List Int × List Int × List Int × List Int) × Int) := match pool_Reclaim_P14v0 k vs bs with | some r => r | none => none
def pool_Reclaim_Λ (k L : Nat) (vs : List SV) (bs : List Blk) : Option ((List Int × List Int × List Int × List Int) × Int) := match Nat.beq L 14 with | true => pool_Reclaim_P14 k vs bs | false => none
noncomputable def pool_Reclaim_C : List (Cut (Tup [⟨true, (.pair (.sl .int) (.pair (.sl .int) (.pair (.sl .int) (.sl .int))))⟩, ⟨false, .int⟩])) := cuts Try.prog (lkΓ [(42, pool_Check_S), (67, pool_own_S)]) Try.f54.ntmps [(14, [1, 2, 4, 6, 19, 20, 21])] (bodyOf Try.f54) (κ0 Try.prog Try.f54 true [⟨true, (.pair (.sl .int) (.pair (.sl .int) (.pair (.sl .int) (.sl .int))))⟩, ⟨false, .int⟩])
set_option maxRecDepth 5000000 in
theorem pool_Reclaim_c14 (k : Nat) (p0 : Int) (p1 : Int) (p2 : Int) (p3 : Int) (p4 : List Int) (p5 : List Int) (p6 : List Int) (p7 : List Int) : ((nthC pool_Reclaim_C 0).g (mkSt [1, 2, 4, 6, 19, 20, 21] [.val (.one (.int .i64 p0)), .val (.one (.ptr 0 0)), .val (.one (.ptr 1 0)), .val (.one (.int .i64 p1)), .val (.one (.row 2)), .val (.one (.int .i64 p2)), .val (.one (.int .i64 p3))] [.box [(.row 3), (.row 2), (.row 4), (.row 5)], .box [.nil, .nil, .nil, .nil], .row .int p4, .row .int p5, .row .int p6, .row .int p7])).run (pool_Reclaim_Λ k) = pool_Reclaim_L14 (k + 1) p0 p1 p2 p3 p4 p5 p6 p7 := by kernel_rfl
set_option maxHeartbeats 0 in
set_option maxRecDepth 5000000 in
theorem pool_Reclaim_e14 (k : Nat) (vs : List SV) (bs : List Blk) (r : ((List Int) × ((List Int) × ((List Int) × (List Int)))) × Int) (h : pool_Reclaim_P14v0 (k + 1) vs bs = some (some r)) : ((nthC pool_Reclaim_C 0).g (mkSt [1, 2, 4, 6, 19, 20, 21] vs bs)).run (pool_Reclaim_Λ k) = some r := by
  unfold pool_Reclaim_P14v0 at h
  split at h
  · exact (pool_Reclaim_c14 k _ _ _ _ _ _ _ _).trans (Option.some.inj h)
  · cases h
theorem pool_Reclaim_d14 : CutOk pool_Reclaim_Λ (nthC pool_Reclaim_C 0) := by
  refine cutOk_of (L := 14) (live := [1, 2, 4, 6, 19, 20, 21]) (by kernel_rfl) (by kernel_rfl) fun k vs bs r h => ?_
  change pool_Reclaim_P14 (k + 1) vs bs = some r at h
  unfold pool_Reclaim_P14 at h
  split at h
  · rename_i q hq
    exact pool_Reclaim_e14 k vs bs r (hq.trans (congrArg some h))
  cases h
theorem pool_Reclaim_cuts : ∀ p ∈ cuts Try.prog (lkΓ [(42, pool_Check_S), (67, pool_own_S)]) Try.f54.ntmps [(14, [1, 2, 4, 6, 19, 20, 21])] (bodyOf Try.f54) (κ0 Try.prog Try.f54 true [⟨true, (.pair (.sl .int) (.pair (.sl .int) (.pair (.sl .int) (.sl .int))))⟩, ⟨false, .int⟩]), CutOk pool_Reclaim_Λ p := cutsOk (l := pool_Reclaim_C) (n := 1) (by kernel_rfl) fun
  | 0, _ => pool_Reclaim_d14
  | k + 1, h => absurd h (by omega)
set_option maxHeartbeats 0 in
set_option maxRecDepth 5000000 in
theorem pool_Reclaim_z14 (vs : List SV) (bs : List Blk) (q : Option (((List Int) × ((List Int) × ((List Int) × (List Int)))) × Int)) (h : pool_Reclaim_P14v0 0 vs bs = some q) : q = none := by
  unfold pool_Reclaim_P14v0 at h; split at h
  · have h := Option.some.inj h; rw [← h]; first | rfl | (unfold pool_Reclaim_L14; rfl)
  · cases h
theorem pool_Reclaim_Λ0 (L : Nat) (vs : List SV) (bs : List Blk) : pool_Reclaim_Λ 0 L vs bs = none := by
  unfold pool_Reclaim_Λ
  split
  · unfold pool_Reclaim_P14
    split
    · rename_i q hq; exact pool_Reclaim_z14 _ _ q hq
    rfl
  rfl
set_option maxRecDepth 5000000 in
theorem pool_Reclaim_run (K : Nat) (x : Tup [⟨true, (.pair (.sl .int) (.pair (.sl .int) (.pair (.sl .int) (.sl .int))))⟩, ⟨false, .int⟩]) : (pxFn Try.prog (lkΓ [(42, pool_Check_S), (67, pool_own_S)]) [(14, [1, 2, 4, 6, 19, 20, 21])] Try.f54 (bodyOf Try.f54) true [⟨true, (.pair (.sl .int) (.pair (.sl .int) (.pair (.sl .int) (.sl .int))))⟩, ⟨false, .int⟩] (encTup [⟨true, (.pair (.sl .int) (.pair (.sl .int) (.pair (.sl .int) (.sl .int))))⟩, ⟨false, .int⟩] x)).run (pool_Reclaim_Λ K) = pool_Reclaim_K K x := by kernel_rfl
set_option maxHeartbeats 0 in
set_option maxRecDepth 5000000 in
def pool_New_P12v0 (k : Nat) (vs : List SV) (bs : List Blk) : Option (Option ((List Int × List Int × List Int × List Int) × Int)) := match vs, bs with
  | [.val (.one (.ptr 0 0)), .val (.one (.ptr 1 0)), .val (.one (.int .i64 p0)), .val (.one (.int .i64 p1))], [.box [.nil, .nil, .nil, .nil], .box [(.row 2), (.row 3), (.row 4), (.row 5)], .row .int p2, .row .int p3, .row .int p4, .row .int p5] => some (pool_New_L12 k p0 p1 p2 p3 p4 p5)
  | _, _ => none
def pool_New_P12 (k : Nat) (vs : List SV) (bs : List Blk) : Option ((List Int × List Int × List Int × List Int) × Int) := match pool_New_P12v0 k vs bs with | some r => r | none => none
def pool_New_Λ (k L : Nat) (vs : List SV) (bs : List Blk) : Option ((List Int × List Int × List Int × List Int) × Int) := match Nat.beq L 12 with | true => pool_New_P12 k vs bs | false => none
noncomputable def pool_New_C : List (Cut (Tup [⟨true, (.pair (.sl .int) (.pair (.sl .int) (.pair (.sl .int) (.sl .int))))⟩, ⟨false, .int⟩])) := cuts Try.prog (lkΓ []) Try.f36.ntmps [(12, [2, 4, 24, 25])] (bodyOf Try.f36) (κ0 Try.prog Try.f36 true [⟨true, (.pair (.sl .int) (.pair (.sl .int) (.pair (.sl .int) (.sl .int))))⟩, ⟨false, .int⟩])
set_option maxRecDepth 5000000 in
theorem pool_New_c12 (k : Nat) (p0 : Int) (p1 : Int) (p2 : List Int) (p3 : List Int) (p4 : List Int) (p5 : List Int) : ((nthC pool_New_C 0).g (mkSt [2, 4, 24, 25] [.val (.one (.ptr 0 0)), .val (.one (.ptr 1 0)), .val (.one (.int .i64 p0)), .val (.one (.int .i64 p1))] [.box [.nil, .nil, .nil, .nil], .box [(.row 2), (.row 3), (.row 4), (.row 5)], .row .int p2, .row .int p3, .row .int p4, .row .int p5])).run (pool_New_Λ k) = pool_New_L12 (k + 1) p0 p1 p2 p3 p4 p5 := by kernel_rfl
set_option maxHeartbeats 0 in
set_option maxRecDepth 5000000 in
theorem pool_New_e12 (k : Nat) (vs : List SV) (bs : List Blk) (r : ((List Int) × ((List Int) × ((List Int) × (List Int)))) × Int) (h : pool_New_P12v0 (k + 1) vs bs = some (some r)) : ((nthC pool_New_C 0).g (mkSt [2, 4, 24, 25] vs bs)).run (pool_New_Λ k) = some r := by
  unfold pool_New_P12v0 at h
  split at h
  · exact (pool_New_c12 k _ _ _ _ _ _).trans (Option.some.inj h)
  · cases h
theorem pool_New_d12 : CutOk pool_New_Λ (nthC pool_New_C 0) := by
  refine cutOk_of (L := 12) (live := [2, 4, 24, 25]) (by kernel_rfl) (by kernel_rfl) fun k vs bs r h => ?_
  change pool_New_P12 (k + 1) vs bs = some r at h
  unfold pool_New_P12 at h
  split at h
  · rename_i q hq
    exact pool_New_e12 k vs bs r (hq.trans (congrArg some h))
  cases h
theorem pool_New_cuts : ∀ p ∈ cuts Try.prog (lkΓ []) Try.f36.ntmps [(12, [2, 4, 24, 25])] (bodyOf Try.f36) (κ0 Try.prog Try.f36 true [⟨true, (.pair (.sl .int) (.pair (.sl .int) (.pair (.sl .int) (.sl .int))))⟩, ⟨false, .int⟩]), CutOk pool_New_Λ p := cutsOk (l := pool_New_C) (n := 1) (by kernel_rfl) fun
  | 0, _ => pool_New_d12
  | k + 1, h => absurd h (by omega)
set_option maxHeartbeats 0 in
set_option maxRecDepth 5000000 in
theorem pool_New_z12 (vs : List SV) (bs : List Blk) (q : Option (((List Int) × ((List Int) × ((List Int) × (List Int)))) × Int)) (h : pool_New_P12v0 0 vs bs = some q) : q = none := by
  unfold pool_New_P12v0 at h; split at h
  · have h := Option.some.inj h; rw [← h]; first | rfl | (unfold pool_New_L12; rfl)
  · cases h
theorem pool_New_Λ0 (L : Nat) (vs : List SV) (bs : List Blk) : pool_New_Λ 0 L vs bs = none := by
  unfold pool_New_Λ
  split
  · unfold pool_New_P12
    split
    · rename_i q hq; exact pool_New_z12 _ _ q hq
    rfl
  rfl
set_option maxRecDepth 5000000 in
theorem pool_New_run (K : Nat) (x : Tup [⟨false, .int⟩]) : (pxFn Try.prog (lkΓ []) [(12, [2, 4, 24, 25])] Try.f36 (bodyOf Try.f36) true [⟨true, (.pair (.sl .int) (.pair (.sl .int) (.pair (.sl .int) (.sl .int))))⟩, ⟨false, .int⟩] (encTup [⟨false, .int⟩] x)).run (pool_New_Λ K) = pool_New_K K x := by kernel_rfl
set_option maxHeartbeats 0 in
set_option maxRecDepth 5000000 in
def slices_Index_P6v0 (k : Nat) (vs : List SV) (bs : List Blk) : Option (Option (Int)) := match vs, bs with
  | [.val (.one (.sl .bool p0)), .val (.one (.bool p1)), .val (.one (.int .i64 p2)), .val (.one (.int .i64 p3))], [] => some (slices_Index_L6 k p0 p1 p2 p3)
  | _, _ => none
def slices_Index_P6 (k : Nat) (vs : List SV) (bs : List Blk) : Option (Int) := match slices_Index_P6v0 k vs bs with | some r => r | none => none
def slices_Index_Λ (k L : Nat) (vs : List SV) (bs : List Blk) : Option (Int) := match Nat.beq L 6 with | true => slices_Index_P6 k vs bs | false => none
noncomputable def slices_Index_C : List (Cut (Tup [⟨false, .int⟩])) := cuts Try.prog (lkΓ []) Try.f77.ntmps [(6, [0, 1, 7, 8])] (bodyOf Try.f77) (κ0 Try.prog Try.f77 false [⟨false, .int⟩])
set_option maxRecDepth 5000000 in
theorem slices_Index_c6 (k : Nat) (p0 : List Bool) (p1 : Bool) (p2 : Int) (p3 : Int) : ((nthC slices_Index_C 0).g (mkSt [0, 1, 7, 8] [.val (.one (.sl .bool p0)), .val (.one (.bool p1)), .val (.one (.int .i64 p2)), .val (.one (.int .i64 p3))] [])).run (slices_Index_Λ k) = slices_Index_L6 (k + 1) p0 p1 p2 p3 := by kernel_rfl
set_option maxHeartbeats 0 in
set_option maxRecDepth 5000000 in
theorem slices_Index_e6 (k : Nat) (vs : List SV) (bs : List Blk) (r : Int) (h : slices_Index_P6v0 (k + 1) vs bs = some (some r)) : ((nthC slices_Index_C 0).g (mkSt [0, 1, 7, 8] vs bs)).run (slices_Index_Λ k) = some r := by
  unfold slices_Index_P6v0 at h
  split at h
  · exact (slices_Index_c6 k _ _ _ _).trans (Option.some.inj h)
  · cases h
theorem slices_Index_d6 : CutOk slices_Index_Λ (nthC slices_Index_C 0) := by
  refine cutOk_of (L := 6) (live := [0, 1, 7, 8]) (by kernel_rfl) (by kernel_rfl) fun k vs bs r h => ?_
  change slices_Index_P6 (k + 1) vs bs = some r at h
  unfold slices_Index_P6 at h
  split at h
  · rename_i q hq
    exact slices_Index_e6 k vs bs r (hq.trans (congrArg some h))
  cases h
theorem slices_Index_cuts : ∀ p ∈ cuts Try.prog (lkΓ []) Try.f77.ntmps [(6, [0, 1, 7, 8])] (bodyOf Try.f77) (κ0 Try.prog Try.f77 false [⟨false, .int⟩]), CutOk slices_Index_Λ p := cutsOk (l := slices_Index_C) (n := 1) (by kernel_rfl) fun
  | 0, _ => slices_Index_d6
  | k + 1, h => absurd h (by omega)
set_option maxHeartbeats 0 in
set_option maxRecDepth 5000000 in
theorem slices_Index_z6 (vs : List SV) (bs : List Blk) (q : Option (Int)) (h : slices_Index_P6v0 0 vs bs = some q) : q = none := by
  unfold slices_Index_P6v0 at h; split at h
  · have h := Option.some.inj h; rw [← h]; first | rfl | (unfold slices_Index_L6; rfl)
  · cases h
theorem slices_Index_Λ0 (L : Nat) (vs : List SV) (bs : List Blk) : slices_Index_Λ 0 L vs bs = none := by
  unfold slices_Index_Λ
  split
  · unfold slices_Index_P6
    split
    · rename_i q hq; exact slices_Index_z6 _ _ q hq
    rfl
  rfl
set_option maxRecDepth 5000000 in
theorem slices_Index_run (K : Nat) (x : Tup [⟨false, (.sl .bool)⟩, ⟨false, .bool⟩]) : (pxFn Try.prog (lkΓ []) [(6, [0, 1, 7, 8])] Try.f77 (bodyOf Try.f77) false [⟨false, .int⟩] (encTup [⟨false, (.sl .bool)⟩, ⟨false, .bool⟩] x)).run (slices_Index_Λ K) = slices_Index_K K x := by kernel_rfl
set_option maxRecDepth 5000000 in
theorem tendrillaw07_ArenaSlots_run (x : Tup [⟨true, (.pair (.sl .int) (.pair (.sl .int) (.pair (.pair (.pair (.sl .int) (.pair (.sl .int) (.pair (.sl .int) (.sl .int)))) (.pair (.pair (.sl .int) (.pair (.sl .int) (.pair (.sl .int) (.sl .int)))) (.pair (.sl .int) (.pair (.sl .int) (.pair (.sl .int) (.sl .int)))))) (.pair .int (.sl .int)))))⟩, ⟨false, .int⟩, ⟨false, .int⟩]) : (pxFn Try.prog (lkΓ [(9, tendrillaw07_live_S), (10, tendrilref07_Few_S), (13, tendrilref07_Same_S), (16, arena_Take_S), (17, arena_Retire_S), (20, tendrilref07_Take_S), (21, tendrilref07_Retire_S), (22, arena_Gen_S), (23, tendrilref07_Gen_S)]) [] Try.f5 (bodyOf Try.f5) false [⟨false, .bool⟩] (encTup [⟨true, (.pair (.sl .int) (.pair (.sl .int) (.pair (.pair (.pair (.sl .int) (.pair (.sl .int) (.pair (.sl .int) (.sl .int)))) (.pair (.pair (.sl .int) (.pair (.sl .int) (.pair (.sl .int) (.sl .int)))) (.pair (.sl .int) (.pair (.sl .int) (.pair (.sl .int) (.sl .int)))))) (.pair .int (.sl .int)))))⟩, ⟨false, .int⟩, ⟨false, .int⟩] x)).run (fun _ _ _ => none) = tendrillaw07_ArenaSlots x := by kernel_rfl
theorem tendrillaw07_ArenaSlots_cuts : ∀ p ∈ cuts Try.prog (lkΓ [(9, tendrillaw07_live_S), (10, tendrilref07_Few_S), (13, tendrilref07_Same_S), (16, arena_Take_S), (17, arena_Retire_S), (20, tendrilref07_Take_S), (21, tendrilref07_Retire_S), (22, arena_Gen_S), (23, tendrilref07_Gen_S)]) Try.f5.ntmps [] (bodyOf Try.f5) (κ0 Try.prog Try.f5 false [⟨false, .bool⟩]), CutOk (fun _ _ _ _ => none) p := cutsNil (by kernel_rfl)
set_option maxRecDepth 5000000 in
theorem pool_Retire_run (x : Tup [⟨true, (.pair (.sl .int) (.pair (.sl .int) (.pair (.sl .int) (.sl .int))))⟩, ⟨false, .int⟩, ⟨false, .int⟩]) : (pxFn Try.prog (lkΓ [(31, tag_Unpack_S), (42, pool_Check_S), (67, pool_own_S)]) [] Try.f48 (bodyOf Try.f48) true [⟨true, (.pair (.sl .int) (.pair (.sl .int) (.pair (.sl .int) (.sl .int))))⟩, ⟨false, .int⟩] (encTup [⟨true, (.pair (.sl .int) (.pair (.sl .int) (.pair (.sl .int) (.sl .int))))⟩, ⟨false, .int⟩, ⟨false, .int⟩] x)).run (fun _ _ _ => none) = pool_Retire x := by kernel_rfl
theorem pool_Retire_cuts : ∀ p ∈ cuts Try.prog (lkΓ [(31, tag_Unpack_S), (42, pool_Check_S), (67, pool_own_S)]) Try.f48.ntmps [] (bodyOf Try.f48) (κ0 Try.prog Try.f48 true [⟨true, (.pair (.sl .int) (.pair (.sl .int) (.pair (.sl .int) (.sl .int))))⟩, ⟨false, .int⟩]), CutOk (fun _ _ _ _ => none) p := cutsNil (by kernel_rfl)
set_option maxRecDepth 5000000 in
theorem tendrilref06_Unpin_run (x : Tup [⟨true, (.pair .int (.sl .int))⟩, ⟨false, .int⟩]) : (pxFn Try.prog (lkΓ [(45, tendrilref06_Check_S), (75, tendrilref02_Copy_S)]) [] Try.f62 (bodyOf Try.f62) true [⟨true, (.pair .int (.sl .int))⟩, ⟨false, .int⟩] (encTup [⟨true, (.pair .int (.sl .int))⟩, ⟨false, .int⟩] x)).run (fun _ _ _ => none) = tendrilref06_Unpin x := by kernel_rfl
theorem tendrilref06_Unpin_cuts : ∀ p ∈ cuts Try.prog (lkΓ [(45, tendrilref06_Check_S), (75, tendrilref02_Copy_S)]) Try.f62.ntmps [] (bodyOf Try.f62) (κ0 Try.prog Try.f62 true [⟨true, (.pair .int (.sl .int))⟩, ⟨false, .int⟩]), CutOk (fun _ _ _ _ => none) p := cutsNil (by kernel_rfl)
set_option maxRecDepth 5000000 in
theorem tendrilref03_Cap_run (x : Tup [⟨true, (.pair .int (.pair .int (.pair .int (.pair .int .int))))⟩, ⟨false, .int⟩]) : (pxFn Try.prog (lkΓ []) [] Try.f39 (bodyOf Try.f39) false [⟨false, .int⟩, ⟨false, .int⟩] (encTup [⟨true, (.pair .int (.pair .int (.pair .int (.pair .int .int))))⟩, ⟨false, .int⟩] x)).run (fun _ _ _ => none) = tendrilref03_Cap x := by kernel_rfl
theorem tendrilref03_Cap_cuts : ∀ p ∈ cuts Try.prog (lkΓ []) Try.f39.ntmps [] (bodyOf Try.f39) (κ0 Try.prog Try.f39 false [⟨false, .int⟩, ⟨false, .int⟩]), CutOk (fun _ _ _ _ => none) p := cutsNil (by kernel_rfl)
set_option maxRecDepth 5000000 in
theorem era_Check_run (x : Tup [⟨true, (.pair .int (.sl .int))⟩]) : (pxFn Try.prog (lkΓ [(66000066, slices_ContainsFunc_era_Check_1_S)]) [] Try.f43 (bodyOf Try.f43) false [⟨false, .int⟩] (encTup [⟨true, (.pair .int (.sl .int))⟩] x)).run (fun _ _ _ => none) = era_Check x := by kernel_rfl
theorem era_Check_cuts : ∀ p ∈ cuts Try.prog (lkΓ [(66000066, slices_ContainsFunc_era_Check_1_S)]) Try.f43.ntmps [] (bodyOf Try.f43) (κ0 Try.prog Try.f43 false [⟨false, .int⟩]), CutOk (fun _ _ _ _ => none) p := cutsNil (by kernel_rfl)
set_option maxRecDepth 5000000 in
theorem tendrilref01_Unpack_run (x : Tup [⟨false, .int⟩]) : (pxFn Try.prog (lkΓ []) [] Try.f52 (bodyOf Try.f52) false [⟨false, .int⟩, ⟨false, .int⟩, ⟨false, .int⟩] (encTup [⟨false, .int⟩] x)).run (fun _ _ _ => none) = tendrilref01_Unpack x := by kernel_rfl
theorem tendrilref01_Unpack_cuts : ∀ p ∈ cuts Try.prog (lkΓ []) Try.f52.ntmps [] (bodyOf Try.f52) (κ0 Try.prog Try.f52 false [⟨false, .int⟩, ⟨false, .int⟩, ⟨false, .int⟩]), CutOk (fun _ _ _ _ => none) p := cutsNil (by kernel_rfl)
set_option maxRecDepth 5000000 in
theorem tendrilref07_kind_run (x : Tup [⟨false, .int⟩]) : (pxFn Try.prog (lkΓ []) [] Try.f49 (bodyOf Try.f49) false [⟨false, .bool⟩] (encTup [⟨false, .int⟩] x)).run (fun _ _ _ => none) = tendrilref07_kind x := by kernel_rfl
theorem tendrilref07_kind_cuts : ∀ p ∈ cuts Try.prog (lkΓ []) Try.f49.ntmps [] (bodyOf Try.f49) (κ0 Try.prog Try.f49 false [⟨false, .bool⟩]), CutOk (fun _ _ _ _ => none) p := cutsNil (by kernel_rfl)
end Go.Proofs.YtcoiboghdmmdcacFn
