/- What the interpreter of code computes of these functions, part 4; no condition. -/
import Derived.Test.YtcoiboghdmmdcadProg
import Derived.KernelRfl
import Derived.Test.YtcoiboghdmmdcadPx25
import Derived.Test.YtcoiboghdmmdcadFnsD
set_option linter.unusedVariables false
set_option linter.unusedSimpArgs false
namespace Go.Proofs.YtcoiboghdmmdcadFn
open Go Go.RowKit Go.Proofs.YtcoiboghdmmdcadPx
set_option maxHeartbeats 0 in
set_option maxRecDepth 5000000 in
def tendrilref07_Same_P6v0 (k : Nat) (vs : List SV) (bs : List Blk) : Option (Option (Bool)) := match vs, bs with
  | [.val (.one (.ptr 0 0)), .val (.one (.ptr 1 0)), .val (.one (.int .i64 p0))], [.box [(.sl .int p1), (.sl .int p2), (.sl .int p3), (.sl .int p4), (.sl .int p5), (.sl .int p6), (.sl .int p7), (.sl .int p8), (.sl .int p9), (.sl .int p10), (.sl .int p11), (.sl .int p12), (.sl .int p13), (.sl .int p14), (.int .i64 p15), (.sl .int p16)], .box [(.sl .int p17), (.sl .int p18), (.sl .int p19), (.sl .int p20), (.sl .int p21), (.sl .int p22), (.sl .int p23), (.sl .int p24), (.sl .int p25), (.sl .int p26), (.sl .int p27), (.sl .int p28), (.sl .int p29), (.sl .int p30), (.int .i64 p31), (.sl .int p32)]] => some (tendrilref07_Same_L6 k p0 p1 p2 p3 p4 p5 p6 p7 p8 p9 p10 p11 p12 p13 p14 p15 p16 p17 p18 p19 p20 p21 p22 p23 p24 p25 p26 p27 p28 p29 p30 p31 p32)
  | _, _ => none
def tendrilref07_Same_P6 (k : Nat) (vs : List SV) (bs : List Blk) : Option (Bool) := match tendrilref07_Same_P6v0 k vs bs with | some r => r | none => none
def tendrilref07_Same_Λ (k L : Nat) (vs : List SV) (bs : List Blk) : Option (Bool) := match Nat.beq L 6 with | true => tendrilref07_Same_P6 k vs bs | false => none
noncomputable def tendrilref07_Same_C : List (Cut (Tup [⟨false, .bool⟩])) := cuts Try.prog (lkΓ [(16, tendrilref06_Same_S), (17, tendrilref05_Same_S), (26, tendrilref02_Same_S)]) Try.f12.ntmps [(6, [2, 3, 6])] (bodyOf Try.f12) (κ0 Try.prog Try.f12 false [⟨false, .bool⟩])
set_option maxRecDepth 5000000 in
theorem tendrilref07_Same_c6 (k : Nat) (p0 : Int) (p1 : List Int) (p2 : List Int) (p3 : List Int) (p4 : List Int) (p5 : List Int) (p6 : List Int) (p7 : List Int) (p8 : List Int) (p9 : List Int) (p10 : List Int) (p11 : List Int) (p12 : List Int) (p13 : List Int) (p14 : List Int) (p15 : Int) (p16 : List Int) (p17 : List Int) (p18 : List Int) (p19 : List Int) (p20 : List Int) (p21 : List Int) (p22 : List Int) (p23 : List Int) (p24 : List Int) (p25 : List Int) (p26 : List Int) (p27 : List Int) (p28 : List Int) (p29 : List Int) (p30 : List Int) (p31 : Int) (p32 : List Int) : ((nthC tendrilref07_Same_C 0).g (mkSt [2, 3, 6] [.val (.one (.ptr 0 0)), .val (.one (.ptr 1 0)), .val (.one (.int .i64 p0))] [.box [(.sl .int p1), (.sl .int p2), (.sl .int p3), (.sl .int p4), (.sl .int p5), (.sl .int p6), (.sl .int p7), (.sl .int p8), (.sl .int p9), (.sl .int p10), (.sl .int p11), (.sl .int p12), (.sl .int p13), (.sl .int p14), (.int .i64 p15), (.sl .int p16)], .box [(.sl .int p17), (.sl .int p18), (.sl .int p19), (.sl .int p20), (.sl .int p21), (.sl .int p22), (.sl .int p23), (.sl .int p24), (.sl .int p25), (.sl .int p26), (.sl .int p27), (.sl .int p28), (.sl .int p29), (.sl .int p30), (.int .i64 p31), (.sl .int p32)]])).run (tendrilref07_Same_Λ k) = tendrilref07_Same_L6 (k + 1) p0 p1 p2 p3 p4 p5 p6 p7 p8 p9 p10 p11 p12 p13 p14 p15 p16 p17 p18 p19 p20 p21 p22 p23 p24 p25 p26 p27 p28 p29 p30 p31 p32 := by kernel_rfl
set_option maxHeartbeats 0 in
set_option maxRecDepth 5000000 in
theorem tendrilref07_Same_e6 (k : Nat) (vs : List SV) (bs : List Blk) (r : Bool) (h : tendrilref07_Same_P6v0 (k + 1) vs bs = some (some r)) : ((nthC tendrilref07_Same_C 0).g (mkSt [2, 3, 6] vs bs)).run (tendrilref07_Same_Λ k) = some r := by
  unfold tendrilref07_Same_P6v0 at h
  split at h
  · exact (tendrilref07_Same_c6 k _ _ _ _ _ _ _ _ _ _ _ _ _ _ _ _ _ _ _ _ _ _ _ _ _ _ _ _ _ _ _ _ _).trans (Option.some.inj h)
  · cases h
theorem tendrilref07_Same_d6 : CutOk tendrilref07_Same_Λ (nthC tendrilref07_Same_C 0) := by
  refine cutOk_of (L := 6) (live := [2, 3, 6]) (by kernel_rfl) (by kernel_rfl) fun k vs bs r h => ?_
  change tendrilref07_Same_P6 (k + 1) vs bs = some r at h
  unfold tendrilref07_Same_P6 at h
  split at h
  · rename_i q hq
    exact tendrilref07_Same_e6 k vs bs r (hq.trans (congrArg some h))
  cases h
theorem tendrilref07_Same_cuts : ∀ p ∈ cuts Try.prog (lkΓ [(16, tendrilref06_Same_S), (17, tendrilref05_Same_S), (26, tendrilref02_Same_S)]) Try.f12.ntmps [(6, [2, 3, 6])] (bodyOf Try.f12) (κ0 Try.prog Try.f12 false [⟨false, .bool⟩]), CutOk tendrilref07_Same_Λ p := cutsOk (l := tendrilref07_Same_C) (n := 1) (by kernel_rfl) fun
  | 0, _ => tendrilref07_Same_d6
  | k + 1, h => absurd h (by omega)
set_option maxHeartbeats 0 in
set_option maxRecDepth 5000000 in
theorem tendrilref07_Same_z6 (vs : List SV) (bs : List Blk) (q : Option (Bool)) (h : tendrilref07_Same_P6v0 0 vs bs = some q) : q = none := by
  unfold tendrilref07_Same_P6v0 at h; split at h
  · have h := Option.some.inj h; rw [← h]; first | rfl | (unfold tendrilref07_Same_L6; rfl)
  · cases h
theorem tendrilref07_Same_Λ0 (L : Nat) (vs : List SV) (bs : List Blk) : tendrilref07_Same_Λ 0 L vs bs = none := by
  unfold tendrilref07_Same_Λ
  split
  · unfold tendrilref07_Same_P6
    split
    · rename_i q hq; exact tendrilref07_Same_z6 _ _ q hq
    rfl
  rfl
set_option maxRecDepth 5000000 in
theorem tendrilref07_Same_run (K : Nat) (x : Tup [⟨true, (.pair (.sl .int) (.pair (.sl .int) (.pair (.pair (.pair (.sl .int) (.pair (.sl .int) (.pair (.sl .int) (.sl .int)))) (.pair (.pair (.sl .int) (.pair (.sl .int) (.pair (.sl .int) (.sl .int)))) (.pair (.sl .int) (.pair (.sl .int) (.pair (.sl .int) (.sl .int)))))) (.pair .int (.sl .int)))))⟩, ⟨true, (.pair (.sl .int) (.pair (.sl .int) (.pair (.pair (.pair (.sl .int) (.pair (.sl .int) (.pair (.sl .int) (.sl .int)))) (.pair (.pair (.sl .int) (.pair (.sl .int) (.pair (.sl .int) (.sl .int)))) (.pair (.sl .int) (.pair (.sl .int) (.pair (.sl .int) (.sl .int)))))) (.pair .int (.sl .int)))))⟩]) : (pxFn Try.prog (lkΓ [(16, tendrilref06_Same_S), (17, tendrilref05_Same_S), (26, tendrilref02_Same_S)]) [(6, [2, 3, 6])] Try.f12 (bodyOf Try.f12) false [⟨false, .bool⟩] (encTup [⟨true, (.pair (.sl .int) (.pair (.sl .int) (.pair (.pair (.pair (.sl .int) (.pair (.sl .int) (.pair (.sl .int) (.sl .int)))) (.pair (.pair (.sl .int) (.pair (.sl .int) (.pair (.sl .int) (.sl .int)))) (.pair (.sl .int) (.pair (.sl .int) (.pair (.sl .int) (.sl .int)))))) (.pair .int (.sl .int)))))⟩, ⟨true, (.pair (.sl .int) (.pair (.sl .int) (.pair (.pair (.pair (.sl .int) (.pair (.sl .int) (.pair (.sl .int) (.sl .int)))) (.pair (.pair (.sl .int) (.pair (.sl .int) (.pair (.sl .int) (.sl .int)))) (.pair (.sl .int) (.pair (.sl .int) (.pair (.sl .int) (.sl .int)))))) (.pair .int (.sl .int)))))⟩] x)).run (tendrilref07_Same_Λ K) = tendrilref07_Same_K K x := by kernel_rfl
set_option maxHeartbeats 0 in
set_option maxRecDepth 5000000 in
def arena_Check_P6v0 (k : Nat) (vs : List SV) (bs : List Blk) : Option (Option (Int)) := match vs, bs with
  | [.val (.one (.ptr 0 0)), .val (.agg [(.sl .int p0), (.sl .int p1), (.sl .int p2), (.sl .int p3), (.sl .int p4), (.sl .int p5), (.sl .int p6), (.sl .int p7), (.sl .int p8), (.sl .int p9), (.sl .int p10), (.sl .int p11)]), .val (.one (.int .i64 p12))], [.box [(.sl .int p13), (.sl .int p14), (.sl .int p15), (.sl .int p16), (.sl .int p17), (.sl .int p18), (.sl .int p19), (.sl .int p20), (.sl .int p21), (.sl .int p22), (.sl .int p23), (.sl .int p24), (.sl .int p25), (.sl .int p26), (.int .i64 p27), (.sl .int p28)]] => some (arena_Check_L6 k p0 p1 p2 p3 p4 p5 p6 p7 p8 p9 p10 p11 p12 p13 p14 p15 p16 p17 p18 p19 p20 p21 p22 p23 p24 p25 p26 p27 p28)
  | _, _ => none
def arena_Check_P6 (k : Nat) (vs : List SV) (bs : List Blk) : Option (Int) := match arena_Check_P6v0 k vs bs with | some r => r | none => none
def arena_Check_Λ (k L : Nat) (vs : List SV) (bs : List Blk) : Option (Int) := match Nat.beq L 6 with | true => arena_Check_P6 k vs bs | false => none
noncomputable def arena_Check_C : List (Cut (Tup [⟨false, .int⟩])) := cuts Try.prog (lkΓ [(61, pool_Check_S), (62, era_Check_S)]) Try.f35.ntmps [(6, [1, 7, 8])] (bodyOf Try.f35) (κ0 Try.prog Try.f35 false [⟨false, .int⟩])
set_option maxRecDepth 5000000 in
theorem arena_Check_c6 (k : Nat) (p0 : List Int) (p1 : List Int) (p2 : List Int) (p3 : List Int) (p4 : List Int) (p5 : List Int) (p6 : List Int) (p7 : List Int) (p8 : List Int) (p9 : List Int) (p10 : List Int) (p11 : List Int) (p12 : Int) (p13 : List Int) (p14 : List Int) (p15 : List Int) (p16 : List Int) (p17 : List Int) (p18 : List Int) (p19 : List Int) (p20 : List Int) (p21 : List Int) (p22 : List Int) (p23 : List Int) (p24 : List Int) (p25 : List Int) (p26 : List Int) (p27 : Int) (p28 : List Int) : ((nthC arena_Check_C 0).g (mkSt [1, 7, 8] [.val (.one (.ptr 0 0)), .val (.agg [(.sl .int p0), (.sl .int p1), (.sl .int p2), (.sl .int p3), (.sl .int p4), (.sl .int p5), (.sl .int p6), (.sl .int p7), (.sl .int p8), (.sl .int p9), (.sl .int p10), (.sl .int p11)]), .val (.one (.int .i64 p12))] [.box [(.sl .int p13), (.sl .int p14), (.sl .int p15), (.sl .int p16), (.sl .int p17), (.sl .int p18), (.sl .int p19), (.sl .int p20), (.sl .int p21), (.sl .int p22), (.sl .int p23), (.sl .int p24), (.sl .int p25), (.sl .int p26), (.int .i64 p27), (.sl .int p28)]])).run (arena_Check_Λ k) = arena_Check_L6 (k + 1) p0 p1 p2 p3 p4 p5 p6 p7 p8 p9 p10 p11 p12 p13 p14 p15 p16 p17 p18 p19 p20 p21 p22 p23 p24 p25 p26 p27 p28 := by kernel_rfl
set_option maxHeartbeats 0 in
set_option maxRecDepth 5000000 in
theorem arena_Check_e6 (k : Nat) (vs : List SV) (bs : List Blk) (r : Int) (h : arena_Check_P6v0 (k + 1) vs bs = some (some r)) : ((nthC arena_Check_C 0).g (mkSt [1, 7, 8] vs bs)).run (arena_Check_Λ k) = some r := by
  unfold arena_Check_P6v0 at h
  split at h
  · exact (arena_Check_c6 k _ _ _ _ _ _ _ _ _ _ _ _ _ _ _ _ _ _ _ _ _ _ _ _ _ _ _ _ _).trans (Option.some.inj h)
  · cases h
theorem arena_Check_d6 : CutOk arena_Check_Λ (nthC arena_Check_C 0) := by
  refine cutOk_of (L := 6) (live := [1, 7, 8]) (by kernel_rfl) (by kernel_rfl) fun k vs bs r h => ?_
  change arena_Check_P6 (k + 1) vs bs = some r at h
  unfold arena_Check_P6 at h
  split at h
  · rename_i q hq
    exact arena_Check_e6 k vs bs r (hq.trans (congrArg some h))
  cases h
theorem arena_Check_cuts : ∀ p ∈ cuts Try.prog (lkΓ [(61, pool_Check_S), (62, era_Check_S)]) Try.f35.ntmps [(6, [1, 7, 8])] (bodyOf Try.f35) (κ0 Try.prog Try.f35 false [⟨false, .int⟩]), CutOk arena_Check_Λ p := cutsOk (l := arena_Check_C) (n := 1) (by kernel_rfl) fun
  | 0, _ => arena_Check_d6
  | k + 1, h => absurd h (by omega)
set_option maxHeartbeats 0 in
set_option maxRecDepth 5000000 in
theorem arena_Check_z6 (vs : List SV) (bs : List Blk) (q : Option (Int)) (h : arena_Check_P6v0 0 vs bs = some q) : q = none := by
  unfold arena_Check_P6v0 at h; split at h
  · have h := Option.some.inj h; rw [← h]; first | rfl | (unfold arena_Check_L6; rfl)
  · cases h
theorem arena_Check_Λ0 (L : Nat) (vs : List SV) (bs : List Blk) : arena_Check_Λ 0 L vs bs = none := by
  unfold arena_Check_Λ
  split
  · unfold arena_Check_P6
    split
    · rename_i q hq; exact arena_Check_z6 _ _ q hq
    rfl
  rfl
set_option maxRecDepth 5000000 in
theorem arena_Check_run (K : Nat) (x : Tup [⟨true, (.pair (.sl .int) (.pair (.sl .int) (.pair (.pair (.pair (.sl .int) (.pair (.sl .int) (.pair (.sl .int) (.sl .int)))) (.pair (.pair (.sl .int) (.pair (.sl .int) (.pair (.sl .int) (.sl .int)))) (.pair (.sl .int) (.pair (.sl .int) (.pair (.sl .int) (.sl .int)))))) (.pair .int (.sl .int)))))⟩]) : (pxFn Try.prog (lkΓ [(61, pool_Check_S), (62, era_Check_S)]) [(6, [1, 7, 8])] Try.f35 (bodyOf Try.f35) false [⟨false, .int⟩] (encTup [⟨true, (.pair (.sl .int) (.pair (.sl .int) (.pair (.pair (.pair (.sl .int) (.pair (.sl .int) (.pair (.sl .int) (.sl .int)))) (.pair (.pair (.sl .int) (.pair (.sl .int) (.pair (.sl .int) (.sl .int)))) (.pair (.sl .int) (.pair (.sl .int) (.pair (.sl .int) (.sl .int)))))) (.pair .int (.sl .int)))))⟩] x)).run (arena_Check_Λ K) = arena_Check_K K x := by kernel_rfl
set_option maxHeartbeats 0 in
set_option maxRecDepth 5000000 in
def shape_Check_P10v0 (k : Nat) (vs : List SV) (bs : List Blk) : Option (Option (Int)) := match vs, bs with
  | [.val (.one (.ptr 0 0)), .val (.agg [(.int .i64 p0), (.int .i64 p1), (.int .i64 p2)]), .val (.one (.int .i64 p3))], [.box [(.sl .int p4), (.sl .int p5), (.sl .int p6), (.sl .int p7), (.sl .int p8), (.sl .int p9), (.sl .int p10), (.sl .int p11), (.sl .int p12), (.sl .int p13), (.sl .int p14), (.sl .int p15), (.sl .int p16), (.sl .int p17), (.int .i64 p18), (.sl .int p19)]] => some (shape_Check_L10 k p0 p1 p2 p3 p4 p5 p6 p7 p8 p9 p10 p11 p12 p13 p14 p15 p16 p17 p18 p19)
  | _, _ => none
def shape_Check_P10 (k : Nat) (vs : List SV) (bs : List Blk) : Option (Int) := match shape_Check_P10v0 k vs bs with | some r => r | none => none
def shape_Check_Λ (k L : Nat) (vs : List SV) (bs : List Blk) : Option (Int) := match Nat.beq L 10 with | true => shape_Check_P10 k vs bs | false => none
noncomputable def shape_Check_C : List (Cut (Tup [⟨false, .int⟩])) := cuts Try.prog (lkΓ [(34, place_Check_S), (35, arena_Check_S), (36, place_Size_S), (39000037, slices_ContainsFunc_shape_Check_1_S)]) Try.f18.ntmps [(10, [3, 38, 39])] (bodyOf Try.f18) (κ0 Try.prog Try.f18 false [⟨false, .int⟩])
set_option maxRecDepth 5000000 in
theorem shape_Check_c10 (k : Nat) (p0 : Int) (p1 : Int) (p2 : Int) (p3 : Int) (p4 : List Int) (p5 : List Int) (p6 : List Int) (p7 : List Int) (p8 : List Int) (p9 : List Int) (p10 : List Int) (p11 : List Int) (p12 : List Int) (p13 : List Int) (p14 : List Int) (p15 : List Int) (p16 : List Int) (p17 : List Int) (p18 : Int) (p19 : List Int) : ((nthC shape_Check_C 0).g (mkSt [3, 38, 39] [.val (.one (.ptr 0 0)), .val (.agg [(.int .i64 p0), (.int .i64 p1), (.int .i64 p2)]), .val (.one (.int .i64 p3))] [.box [(.sl .int p4), (.sl .int p5), (.sl .int p6), (.sl .int p7), (.sl .int p8), (.sl .int p9), (.sl .int p10), (.sl .int p11), (.sl .int p12), (.sl .int p13), (.sl .int p14), (.sl .int p15), (.sl .int p16), (.sl .int p17), (.int .i64 p18), (.sl .int p19)]])).run (shape_Check_Λ k) = shape_Check_L10 (k + 1) p0 p1 p2 p3 p4 p5 p6 p7 p8 p9 p10 p11 p12 p13 p14 p15 p16 p17 p18 p19 := by kernel_rfl
set_option maxHeartbeats 0 in
set_option maxRecDepth 5000000 in
theorem shape_Check_e10 (k : Nat) (vs : List SV) (bs : List Blk) (r : Int) (h : shape_Check_P10v0 (k + 1) vs bs = some (some r)) : ((nthC shape_Check_C 0).g (mkSt [3, 38, 39] vs bs)).run (shape_Check_Λ k) = some r := by
  unfold shape_Check_P10v0 at h
  split at h
  · exact (shape_Check_c10 k _ _ _ _ _ _ _ _ _ _ _ _ _ _ _ _ _ _ _ _).trans (Option.some.inj h)
  · cases h
theorem shape_Check_d10 : CutOk shape_Check_Λ (nthC shape_Check_C 0) := by
  refine cutOk_of (L := 10) (live := [3, 38, 39]) (by kernel_rfl) (by kernel_rfl) fun k vs bs r h => ?_
  change shape_Check_P10 (k + 1) vs bs = some r at h
  unfold shape_Check_P10 at h
  split at h
  · rename_i q hq
    exact shape_Check_e10 k vs bs r (hq.trans (congrArg some h))
  cases h
theorem shape_Check_cuts : ∀ p ∈ cuts Try.prog (lkΓ [(34, place_Check_S), (35, arena_Check_S), (36, place_Size_S), (39000037, slices_ContainsFunc_shape_Check_1_S)]) Try.f18.ntmps [(10, [3, 38, 39])] (bodyOf Try.f18) (κ0 Try.prog Try.f18 false [⟨false, .int⟩]), CutOk shape_Check_Λ p := cutsOk (l := shape_Check_C) (n := 1) (by kernel_rfl) fun
  | 0, _ => shape_Check_d10
  | k + 1, h => absurd h (by omega)
set_option maxHeartbeats 0 in
set_option maxRecDepth 5000000 in
theorem shape_Check_z10 (vs : List SV) (bs : List Blk) (q : Option (Int)) (h : shape_Check_P10v0 0 vs bs = some q) : q = none := by
  unfold shape_Check_P10v0 at h; split at h
  · have h := Option.some.inj h; rw [← h]; first | rfl | (unfold shape_Check_L10; rfl)
  · cases h
theorem shape_Check_Λ0 (L : Nat) (vs : List SV) (bs : List Blk) : shape_Check_Λ 0 L vs bs = none := by
  unfold shape_Check_Λ
  split
  · unfold shape_Check_P10
    split
    · rename_i q hq; exact shape_Check_z10 _ _ q hq
    rfl
  rfl
set_option maxRecDepth 5000000 in
theorem shape_Check_run (K : Nat) (x : Tup [⟨true, (.pair .int (.pair .int (.pair .int (.pair .int .int))))⟩, ⟨true, (.pair (.sl .int) (.pair (.sl .int) (.pair (.pair (.pair (.sl .int) (.pair (.sl .int) (.pair (.sl .int) (.sl .int)))) (.pair (.pair (.sl .int) (.pair (.sl .int) (.pair (.sl .int) (.sl .int)))) (.pair (.sl .int) (.pair (.sl .int) (.pair (.sl .int) (.sl .int)))))) (.pair .int (.sl .int)))))⟩]) : (pxFn Try.prog (lkΓ [(34, place_Check_S), (35, arena_Check_S), (36, place_Size_S), (39000037, slices_ContainsFunc_shape_Check_1_S)]) [(10, [3, 38, 39])] Try.f18 (bodyOf Try.f18) false [⟨false, .int⟩] (encTup [⟨true, (.pair .int (.pair .int (.pair .int (.pair .int .int))))⟩, ⟨true, (.pair (.sl .int) (.pair (.sl .int) (.pair (.pair (.pair (.sl .int) (.pair (.sl .int) (.pair (.sl .int) (.sl .int)))) (.pair (.pair (.sl .int) (.pair (.sl .int) (.pair (.sl .int) (.sl .int)))) (.pair (.sl .int) (.pair (.sl .int) (.pair (.sl .int) (.sl .int)))))) (.pair .int (.sl .int)))))⟩] x)).run (shape_Check_Λ K) = shape_Check_K K x := by kernel_rfl
set_option maxHeartbeats 0 in
set_option maxRecDepth 5000000 in
def tendrilref02_Same_P10v0 (k : Nat) (vs : List SV) (bs : List Blk) : Option (Option (Bool)) := match vs, bs with
  | [.val (.one (.sl .int p0)), .val (.one (.sl .int p1)), .val (.one (.int .i64 p2)), .val (.one (.int .i64 p3))], [] => some (tendrilref02_Same_L10 k p0 p1 p2 p3)
  | _, _ => none
def tendrilref02_Same_P10 (k : Nat) (vs : List SV) (bs : List Blk) : Option (Bool) := match tendrilref02_Same_P10v0 k vs bs with | some r => r | none => none
def tendrilref02_Same_Λ (k L : Nat) (vs : List SV) (bs : List Blk) : Option (Bool) := match Nat.beq L 10 with | true => tendrilref02_Same_P10 k vs bs | false => none
noncomputable def tendrilref02_Same_C : List (Cut (Tup [⟨false, .bool⟩])) := cuts Try.prog (lkΓ []) Try.f26.ntmps [(10, [0, 1, 12, 13])] (bodyOf Try.f26) (κ0 Try.prog Try.f26 false [⟨false, .bool⟩])
set_option maxRecDepth 5000000 in
theorem tendrilref02_Same_c10 (k : Nat) (p0 : List Int) (p1 : List Int) (p2 : Int) (p3 : Int) : ((nthC tendrilref02_Same_C 0).g (mkSt [0, 1, 12, 13] [.val (.one (.sl .int p0)), .val (.one (.sl .int p1)), .val (.one (.int .i64 p2)), .val (.one (.int .i64 p3))] [])).run (tendrilref02_Same_Λ k) = tendrilref02_Same_L10 (k + 1) p0 p1 p2 p3 := by kernel_rfl
set_option maxHeartbeats 0 in
set_option maxRecDepth 5000000 in
theorem tendrilref02_Same_e10 (k : Nat) (vs : List SV) (bs : List Blk) (r : Bool) (h : tendrilref02_Same_P10v0 (k + 1) vs bs = some (some r)) : ((nthC tendrilref02_Same_C 0).g (mkSt [0, 1, 12, 13] vs bs)).run (tendrilref02_Same_Λ k) = some r := by
  unfold tendrilref02_Same_P10v0 at h
  split at h
  · exact (tendrilref02_Same_c10 k _ _ _ _).trans (Option.some.inj h)
  · cases h
theorem tendrilref02_Same_d10 : CutOk tendrilref02_Same_Λ (nthC tendrilref02_Same_C 0) := by
  refine cutOk_of (L := 10) (live := [0, 1, 12, 13]) (by kernel_rfl) (by kernel_rfl) fun k vs bs r h => ?_
  change tendrilref02_Same_P10 (k + 1) vs bs = some r at h
  unfold tendrilref02_Same_P10 at h
  split at h
  · rename_i q hq
    exact tendrilref02_Same_e10 k vs bs r (hq.trans (congrArg some h))
  cases h
theorem tendrilref02_Same_cuts : ∀ p ∈ cuts Try.prog (lkΓ []) Try.f26.ntmps [(10, [0, 1, 12, 13])] (bodyOf Try.f26) (κ0 Try.prog Try.f26 false [⟨false, .bool⟩]), CutOk tendrilref02_Same_Λ p := cutsOk (l := tendrilref02_Same_C) (n := 1) (by kernel_rfl) fun
  | 0, _ => tendrilref02_Same_d10
  | k + 1, h => absurd h (by omega)
set_option maxHeartbeats 0 in
set_option maxRecDepth 5000000 in
theorem tendrilref02_Same_z10 (vs : List SV) (bs : List Blk) (q : Option (Bool)) (h : tendrilref02_Same_P10v0 0 vs bs = some q) : q = none := by
  unfold tendrilref02_Same_P10v0 at h; split at h
  · have h := Option.some.inj h; rw [← h]; first | rfl | (unfold tendrilref02_Same_L10; rfl)
  · cases h
theorem tendrilref02_Same_Λ0 (L : Nat) (vs : List SV) (bs : List Blk) : tendrilref02_Same_Λ 0 L vs bs = none := by
  unfold tendrilref02_Same_Λ
  split
  · unfold tendrilref02_Same_P10
    split
    · rename_i q hq; exact tendrilref02_Same_z10 _ _ q hq
    rfl
  rfl
set_option maxRecDepth 5000000 in
theorem tendrilref02_Same_run (K : Nat) (x : Tup [⟨false, (.sl .int)⟩, ⟨false, (.sl .int)⟩]) : (pxFn Try.prog (lkΓ []) [(10, [0, 1, 12, 13])] Try.f26 (bodyOf Try.f26) false [⟨false, .bool⟩] (encTup [⟨false, (.sl .int)⟩, ⟨false, (.sl .int)⟩] x)).run (tendrilref02_Same_Λ K) = tendrilref02_Same_K K x := by kernel_rfl
set_option maxRecDepth 5000000 in
theorem ask_Do_run (x : Tup [⟨true, (.pair .int (.pair .int (.pair .int (.pair .int .int))))⟩, ⟨true, (.pair (.sl .int) (.pair (.sl .int) (.pair (.pair (.pair (.sl .int) (.pair (.sl .int) (.pair (.sl .int) (.sl .int)))) (.pair (.pair (.sl .int) (.pair (.sl .int) (.pair (.sl .int) (.sl .int)))) (.pair (.sl .int) (.pair (.sl .int) (.pair (.sl .int) (.sl .int)))))) (.pair .int (.sl .int)))))⟩, ⟨false, .int⟩, ⟨true, (.pair .int (.pair .int (.pair .int (.pair .int (.pair .int .int)))))⟩]) : (pxFn Try.prog (lkΓ [(13, ask_Waits_S), (18, shape_Check_S), (30, ask_words_S), (31, ask_touch_S), (32, ask_latches_S), (33, ask_records_S)]) [] Try.f15 (bodyOf Try.f15) false [⟨true, (.pair (.sl .int) (.pair (.sl .int) (.pair (.pair (.pair (.sl .int) (.pair (.sl .int) (.pair (.sl .int) (.sl .int)))) (.pair (.pair (.sl .int) (.pair (.sl .int) (.pair (.sl .int) (.sl .int)))) (.pair (.sl .int) (.pair (.sl .int) (.pair (.sl .int) (.sl .int)))))) (.pair .int (.sl .int)))))⟩, ⟨false, .int⟩, ⟨false, (.sl (.pair .int (.pair .int (.pair .int (.pair .int (.pair .int (.pair .int (.pair .int .bool))))))))⟩, ⟨false, .int⟩] (encTup [⟨true, (.pair .int (.pair .int (.pair .int (.pair .int .int))))⟩, ⟨true, (.pair (.sl .int) (.pair (.sl .int) (.pair (.pair (.pair (.sl .int) (.pair (.sl .int) (.pair (.sl .int) (.sl .int)))) (.pair (.pair (.sl .int) (.pair (.sl .int) (.pair (.sl .int) (.sl .int)))) (.pair (.sl .int) (.pair (.sl .int) (.pair (.sl .int) (.sl .int)))))) (.pair .int (.sl .int)))))⟩, ⟨false, .int⟩, ⟨true, (.pair .int (.pair .int (.pair .int (.pair .int (.pair .int .int)))))⟩] x)).run (fun _ _ _ => none) = ask_Do x := by kernel_rfl
theorem ask_Do_cuts : ∀ p ∈ cuts Try.prog (lkΓ [(13, ask_Waits_S), (18, shape_Check_S), (30, ask_words_S), (31, ask_touch_S), (32, ask_latches_S), (33, ask_records_S)]) Try.f15.ntmps [] (bodyOf Try.f15) (κ0 Try.prog Try.f15 false [⟨true, (.pair (.sl .int) (.pair (.sl .int) (.pair (.pair (.pair (.sl .int) (.pair (.sl .int) (.pair (.sl .int) (.sl .int)))) (.pair (.pair (.sl .int) (.pair (.sl .int) (.pair (.sl .int) (.sl .int)))) (.pair (.sl .int) (.pair (.sl .int) (.pair (.sl .int) (.sl .int)))))) (.pair .int (.sl .int)))))⟩, ⟨false, .int⟩, ⟨false, (.sl (.pair .int (.pair .int (.pair .int (.pair .int (.pair .int (.pair .int (.pair .int .bool))))))))⟩, ⟨false, .int⟩]), CutOk (fun _ _ _ _ => none) p := cutsNil (by kernel_rfl)
set_option maxRecDepth 5000000 in
theorem arena_End_run (x : Tup [⟨true, (.pair (.sl .int) (.pair (.sl .int) (.pair (.pair (.pair (.sl .int) (.pair (.sl .int) (.pair (.sl .int) (.sl .int)))) (.pair (.pair (.sl .int) (.pair (.sl .int) (.pair (.sl .int) (.sl .int)))) (.pair (.sl .int) (.pair (.sl .int) (.pair (.sl .int) (.sl .int)))))) (.pair .int (.sl .int)))))⟩, ⟨false, .int⟩]) : (pxFn Try.prog (lkΓ [(69, arena_may_S), (71, era_Unpin_S), (72, arena_Turn_S)]) [] Try.f58 (bodyOf Try.f58) false [⟨true, (.pair (.sl .int) (.pair (.sl .int) (.pair (.pair (.pair (.sl .int) (.pair (.sl .int) (.pair (.sl .int) (.sl .int)))) (.pair (.pair (.sl .int) (.pair (.sl .int) (.pair (.sl .int) (.sl .int)))) (.pair (.sl .int) (.pair (.sl .int) (.pair (.sl .int) (.sl .int)))))) (.pair .int (.sl .int)))))⟩, ⟨false, .int⟩] (encTup [⟨true, (.pair (.sl .int) (.pair (.sl .int) (.pair (.pair (.pair (.sl .int) (.pair (.sl .int) (.pair (.sl .int) (.sl .int)))) (.pair (.pair (.sl .int) (.pair (.sl .int) (.pair (.sl .int) (.sl .int)))) (.pair (.sl .int) (.pair (.sl .int) (.pair (.sl .int) (.sl .int)))))) (.pair .int (.sl .int)))))⟩, ⟨false, .int⟩] x)).run (fun _ _ _ => none) = arena_End x := by kernel_rfl
theorem arena_End_cuts : ∀ p ∈ cuts Try.prog (lkΓ [(69, arena_may_S), (71, era_Unpin_S), (72, arena_Turn_S)]) Try.f58.ntmps [] (bodyOf Try.f58) (κ0 Try.prog Try.f58 false [⟨true, (.pair (.sl .int) (.pair (.sl .int) (.pair (.pair (.pair (.sl .int) (.pair (.sl .int) (.pair (.sl .int) (.sl .int)))) (.pair (.pair (.sl .int) (.pair (.sl .int) (.pair (.sl .int) (.sl .int)))) (.pair (.sl .int) (.pair (.sl .int) (.pair (.sl .int) (.sl .int)))))) (.pair .int (.sl .int)))))⟩, ⟨false, .int⟩]), CutOk (fun _ _ _ _ => none) p := cutsNil (by kernel_rfl)
set_option maxRecDepth 5000000 in
theorem tendrillaw16_AskLatch_run (x : Tup [⟨true, (.pair .int (.pair .int (.pair .int (.pair .int .int))))⟩, ⟨true, (.pair (.sl .int) (.pair (.sl .int) (.pair (.pair (.pair (.sl .int) (.pair (.sl .int) (.pair (.sl .int) (.sl .int)))) (.pair (.pair (.sl .int) (.pair (.sl .int) (.pair (.sl .int) (.sl .int)))) (.pair (.sl .int) (.pair (.sl .int) (.pair (.sl .int) (.sl .int)))))) (.pair .int (.sl .int)))))⟩, ⟨false, .int⟩, ⟨false, .int⟩, ⟨false, .int⟩]) : (pxFn Try.prog (lkΓ [(8, tendrillaw16_live_S), (9, tendrilref07_Few_S), (13, ask_Waits_S), (15, ask_Do_S), (18, shape_Check_S)]) [] Try.f6 (bodyOf Try.f6) false [⟨false, .bool⟩] (encTup [⟨true, (.pair .int (.pair .int (.pair .int (.pair .int .int))))⟩, ⟨true, (.pair (.sl .int) (.pair (.sl .int) (.pair (.pair (.pair (.sl .int) (.pair (.sl .int) (.pair (.sl .int) (.sl .int)))) (.pair (.pair (.sl .int) (.pair (.sl .int) (.pair (.sl .int) (.sl .int)))) (.pair (.sl .int) (.pair (.sl .int) (.pair (.sl .int) (.sl .int)))))) (.pair .int (.sl .int)))))⟩, ⟨false, .int⟩, ⟨false, .int⟩, ⟨false, .int⟩] x)).run (fun _ _ _ => none) = tendrillaw16_AskLatch x := by kernel_rfl
theorem tendrillaw16_AskLatch_cuts : ∀ p ∈ cuts Try.prog (lkΓ [(8, tendrillaw16_live_S), (9, tendrilref07_Few_S), (13, ask_Waits_S), (15, ask_Do_S), (18, shape_Check_S)]) Try.f6.ntmps [] (bodyOf Try.f6) (κ0 Try.prog Try.f6 false [⟨false, .bool⟩]), CutOk (fun _ _ _ _ => none) p := cutsNil (by kernel_rfl)
set_option maxRecDepth 5000000 in
theorem arena_Gen_run (x : Tup [⟨true, (.pair (.sl .int) (.pair (.sl .int) (.pair (.pair (.pair (.sl .int) (.pair (.sl .int) (.pair (.sl .int) (.sl .int)))) (.pair (.pair (.sl .int) (.pair (.sl .int) (.pair (.sl .int) (.sl .int)))) (.pair (.sl .int) (.pair (.sl .int) (.pair (.sl .int) (.sl .int)))))) (.pair .int (.sl .int)))))⟩, ⟨false, .int⟩, ⟨false, .int⟩]) : (pxFn Try.prog (lkΓ [(19, tag_Unpack_S), (69, arena_may_S)]) [] Try.f53 (bodyOf Try.f53) false [⟨false, .int⟩, ⟨false, .int⟩, ⟨false, .int⟩] (encTup [⟨true, (.pair (.sl .int) (.pair (.sl .int) (.pair (.pair (.pair (.sl .int) (.pair (.sl .int) (.pair (.sl .int) (.sl .int)))) (.pair (.pair (.sl .int) (.pair (.sl .int) (.pair (.sl .int) (.sl .int)))) (.pair (.sl .int) (.pair (.sl .int) (.pair (.sl .int) (.sl .int)))))) (.pair .int (.sl .int)))))⟩, ⟨false, .int⟩, ⟨false, .int⟩] x)).run (fun _ _ _ => none) = arena_Gen x := by kernel_rfl
theorem arena_Gen_cuts : ∀ p ∈ cuts Try.prog (lkΓ [(19, tag_Unpack_S), (69, arena_may_S)]) Try.f53.ntmps [] (bodyOf Try.f53) (κ0 Try.prog Try.f53 false [⟨false, .int⟩, ⟨false, .int⟩, ⟨false, .int⟩]), CutOk (fun _ _ _ _ => none) p := cutsNil (by kernel_rfl)
set_option maxRecDepth 5000000 in
theorem chain_Put_run (x : Tup [⟨true, (.pair .int (.pair .int (.pair .int (.pair .int .int))))⟩, ⟨false, (.sl .int)⟩, ⟨false, .int⟩, ⟨false, .int⟩, ⟨false, .int⟩, ⟨false, .int⟩]) : (pxFn Try.prog (lkΓ [(52, mem_Store_S), (66, chain_where_S)]) [] Try.f51 (bodyOf Try.f51) true [⟨false, (.sl .int)⟩, ⟨false, .int⟩] (encTup [⟨true, (.pair .int (.pair .int (.pair .int (.pair .int .int))))⟩, ⟨false, (.sl .int)⟩, ⟨false, .int⟩, ⟨false, .int⟩, ⟨false, .int⟩, ⟨false, .int⟩] x)).run (fun _ _ _ => none) = chain_Put x := by kernel_rfl
theorem chain_Put_cuts : ∀ p ∈ cuts Try.prog (lkΓ [(52, mem_Store_S), (66, chain_where_S)]) Try.f51.ntmps [] (bodyOf Try.f51) (κ0 Try.prog Try.f51 true [⟨false, (.sl .int)⟩, ⟨false, .int⟩]), CutOk (fun _ _ _ _ => none) p := cutsNil (by kernel_rfl)
set_option maxRecDepth 5000000 in
theorem slices_ContainsFunc_era_Turn_1_run (x : Tup [⟨false, (.sl .int)⟩, ⟨false, (.clo 89 (.ref (.pair .int (.sl .int))))⟩]) : (pxFn Try.prog (lkΓ [(90000064, slices_IndexFunc_era_Turn_1_S)]) [] Try.f37 (bodyOf Try.f37) false [⟨false, .bool⟩] (encTup [⟨false, (.sl .int)⟩, ⟨false, (.clo 89 (.ref (.pair .int (.sl .int))))⟩] x)).run (fun _ _ _ => none) = slices_ContainsFunc_era_Turn_1 x := by kernel_rfl
theorem slices_ContainsFunc_era_Turn_1_cuts : ∀ p ∈ cuts Try.prog (lkΓ [(90000064, slices_IndexFunc_era_Turn_1_S)]) Try.f37.ntmps [] (bodyOf Try.f37) (κ0 Try.prog Try.f37 false [⟨false, .bool⟩]), CutOk (fun _ _ _ _ => none) p := cutsNil (by kernel_rfl)
set_option maxRecDepth 5000000 in
theorem mem_Store_run (x : Tup [⟨false, (.sl .int)⟩, ⟨false, .int⟩, ⟨false, .int⟩]) : (pxFn Try.prog (lkΓ [(67, mem_in_S), (68, slices_Clone_S)]) [] Try.f52 (bodyOf Try.f52) true [⟨false, (.sl .int)⟩, ⟨false, .int⟩] (encTup [⟨false, (.sl .int)⟩, ⟨false, .int⟩, ⟨false, .int⟩] x)).run (fun _ _ _ => none) = mem_Store x := by kernel_rfl
theorem mem_Store_cuts : ∀ p ∈ cuts Try.prog (lkΓ [(67, mem_in_S), (68, slices_Clone_S)]) Try.f52.ntmps [] (bodyOf Try.f52) (κ0 Try.prog Try.f52 true [⟨false, (.sl .int)⟩, ⟨false, .int⟩]), CutOk (fun _ _ _ _ => none) p := cutsNil (by kernel_rfl)
set_option maxRecDepth 5000000 in
theorem math_bits_Mul32_run (x : Tup [⟨false, (.num .u32)⟩, ⟨false, (.num .u32)⟩]) : (pxFn Try.prog (lkΓ []) [] Try.f87 (bodyOf Try.f87) false [⟨false, (.num .u32)⟩, ⟨false, (.num .u32)⟩] (encTup [⟨false, (.num .u32)⟩, ⟨false, (.num .u32)⟩] x)).run (fun _ _ _ => none) = math_bits_Mul32 x := by kernel_rfl
theorem math_bits_Mul32_cuts : ∀ p ∈ cuts Try.prog (lkΓ []) Try.f87.ntmps [] (bodyOf Try.f87) (κ0 Try.prog Try.f87 false [⟨false, (.num .u32)⟩, ⟨false, (.num .u32)⟩]), CutOk (fun _ _ _ _ => none) p := cutsNil (by kernel_rfl)
set_option maxRecDepth 5000000 in
theorem place_Check_run (x : Tup [⟨true, (.pair .int (.pair .int (.pair .int (.pair .int .int))))⟩]) : (pxFn Try.prog (lkΓ []) [] Try.f34 (bodyOf Try.f34) false [⟨false, .int⟩] (encTup [⟨true, (.pair .int (.pair .int (.pair .int (.pair .int .int))))⟩] x)).run (fun _ _ _ => none) = place_Check x := by kernel_rfl
theorem place_Check_cuts : ∀ p ∈ cuts Try.prog (lkΓ []) Try.f34.ntmps [] (bodyOf Try.f34) (κ0 Try.prog Try.f34 false [⟨false, .int⟩]), CutOk (fun _ _ _ _ => none) p := cutsNil (by kernel_rfl)
set_option maxRecDepth 5000000 in
theorem tendrilref08_Held_run (x : Tup [⟨false, .int⟩]) : (pxFn Try.prog (lkΓ [(48, tendrilref08_Check_S)]) [] Try.f29 (bodyOf Try.f29) false [⟨false, .bool⟩] (encTup [⟨false, .int⟩] x)).run (fun _ _ _ => none) = tendrilref08_Held x := by kernel_rfl
theorem tendrilref08_Held_cuts : ∀ p ∈ cuts Try.prog (lkΓ [(48, tendrilref08_Check_S)]) Try.f29.ntmps [] (bodyOf Try.f29) (κ0 Try.prog Try.f29 false [⟨false, .bool⟩]), CutOk (fun _ _ _ _ => none) p := cutsNil (by kernel_rfl)
set_option maxRecDepth 5000000 in
theorem tendrilref08_Check_run (x : Tup [⟨false, .int⟩]) : (pxFn Try.prog (lkΓ []) [] Try.f48 (bodyOf Try.f48) false [⟨false, .int⟩] (encTup [⟨false, .int⟩] x)).run (fun _ _ _ => none) = tendrilref08_Check x := by kernel_rfl
theorem tendrilref08_Check_cuts : ∀ p ∈ cuts Try.prog (lkΓ []) Try.f48.ntmps [] (bodyOf Try.f48) (κ0 Try.prog Try.f48 false [⟨false, .int⟩]), CutOk (fun _ _ _ _ => none) p := cutsNil (by kernel_rfl)
end Go.Proofs.YtcoiboghdmmdcadFn
