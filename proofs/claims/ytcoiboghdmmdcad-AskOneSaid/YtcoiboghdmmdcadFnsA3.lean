/- What the interpreter of code computes of these functions, part 3; no condition. -/
import Derived.Test.YtcoiboghdmmdcadProg
import Derived.KernelRfl
import Derived.Test.YtcoiboghdmmdcadPx25
import Derived.Test.YtcoiboghdmmdcadFnsD
set_option linter.unusedVariables false
set_option linter.unusedSimpArgs false
namespace Go.Proofs.YtcoiboghdmmdcadFn
open Go Go.RowKit Go.Proofs.YtcoiboghdmmdcadPx
set_option maxHeartbeats 0 in
set_option maxRecDepth 5000000 in
def tendrillaw16_AskOne_P26v0 (k : Nat) (vs : List SV) (bs : List Blk) : Option (Option (Bool)) := match vs, bs with
  | [.val (.one (.ptr 0 0)), .val (.one (.ptr 1 0)), .val (.one (.ptr 2 0)), .val (.one (.int .i64 p0)), .val (.one (.int .i64 p1)), .val (.one (.int .i64 p2)), .val (.one (.int .i64 p3))], [.box [(.sl .int p4), (.sl .int p5), (.sl .int p6), (.sl .int p7), (.sl .int p8), (.sl .int p9), (.sl .int p10), (.sl .int p11), (.sl .int p12), (.sl .int p13), (.sl .int p14), (.sl .int p15), (.sl .int p16), (.sl .int p17), (.int .i64 p18), (.sl .int p19)], .box [(.int .i64 p20), (.int .i64 p21), (.int .i64 p22), (.int .i64 p23), (.int .i64 p24), (.int .i64 p25)], .box [(.sl .int p26), (.sl .int p27), (.sl .int p28), (.sl .int p29), (.sl .int p30), (.sl .int p31), (.sl .int p32), (.sl .int p33), (.sl .int p34), (.sl .int p35), (.sl .int p36), (.sl .int p37), (.sl .int p38), (.sl .int p39), (.int .i64 p40), (.sl .int p41)]] => some (tendrillaw16_AskOne_L26 k p0 p1 p2 p3 p4 p5 p6 p7 p8 p9 p10 p11 p12 p13 p14 p15 p16 p17 p18 p19 p20 p21 p22 p23 p24 p25 p26 p27 p28 p29 p30 p31 p32 p33 p34 p35 p36 p37 p38 p39 p40 p41)
  | _, _ => none
set_option maxHeartbeats 0 in
set_option maxRecDepth 5000000 in
def tendrillaw16_AskOne_P38v0 (k : Nat) (vs : List SV) (bs : List Blk) : Option (Option (Bool)) := match vs, bs with
  | [.val (.one (.ptr 0 0)), .val (.one (.ptr 1 0)), .val (.one (.ptr 2 0)), .val (.one (.int .i64 p0)), .val (.one (.int .i64 p1)), .val (.one (.int .i64 p2)), .val (.one (.int .i64 p3))], [.box [(.sl .int p4), (.sl .int p5), (.sl .int p6), (.sl .int p7), (.sl .int p8), (.sl .int p9), (.sl .int p10), (.sl .int p11), (.sl .int p12), (.sl .int p13), (.sl .int p14), (.sl .int p15), (.sl .int p16), (.sl .int p17), (.int .i64 p18), (.sl .int p19)], .box [(.int .i64 p20), (.int .i64 p21), (.int .i64 p22), (.int .i64 p23), (.int .i64 p24), (.int .i64 p25)], .box [(.sl .int p26), (.sl .int p27), (.sl .int p28), (.sl .int p29), (.sl .int p30), (.sl .int p31), (.sl .int p32), (.sl .int p33), (.sl .int p34), (.sl .int p35), (.sl .int p36), (.sl .int p37), (.sl .int p38), (.sl .int p39), (.int .i64 p40), (.sl .int p41)]] => some (tendrillaw16_AskOne_L38 k p0 p1 p2 p3 p4 p5 p6 p7 p8 p9 p10 p11 p12 p13 p14 p15 p16 p17 p18 p19 p20 p21 p22 p23 p24 p25 p26 p27 p28 p29 p30 p31 p32 p33 p34 p35 p36 p37 p38 p39 p40 p41)
  | _, _ => none
set_option maxHeartbeats 0 in
set_option maxRecDepth 5000000 in
def tendrillaw16_AskOne_P52v0 (k : Nat) (vs : List SV) (bs : List Blk) : Option (Option (Bool)) := match vs, bs with
  | [.val (.one (.ptr 0 0)), .val (.one (.ptr 1 0)), .val (.one (.ptr 2 0)), .val (.one (.int .i64 p0)), .val (.one (.int .i64 p1)), .val (.one (.bool p2)), .val (.one (.int .i64 p3))], [.box [(.sl .int p4), (.sl .int p5), (.sl .int p6), (.sl .int p7), (.sl .int p8), (.sl .int p9), (.sl .int p10), (.sl .int p11), (.sl .int p12), (.sl .int p13), (.sl .int p14), (.sl .int p15), (.sl .int p16), (.sl .int p17), (.int .i64 p18), (.sl .int p19)], .box [(.int .i64 p20), (.int .i64 p21), (.int .i64 p22), (.int .i64 p23), (.int .i64 p24), (.int .i64 p25)], .box [(.sl .int p26), (.sl .int p27), (.sl .int p28), (.sl .int p29), (.sl .int p30), (.sl .int p31), (.sl .int p32), (.sl .int p33), (.sl .int p34), (.sl .int p35), (.sl .int p36), (.sl .int p37), (.sl .int p38), (.sl .int p39), (.int .i64 p40), (.sl .int p41)]] => some (tendrillaw16_AskOne_L52 k p0 p1 p2 p3 p4 p5 p6 p7 p8 p9 p10 p11 p12 p13 p14 p15 p16 p17 p18 p19 p20 p21 p22 p23 p24 p25 p26 p27 p28 p29 p30 p31 p32 p33 p34 p35 p36 p37 p38 p39 p40 p41)
  | _, _ => none
def tendrillaw16_AskOne_P26 (k : Nat) (vs : List SV) (bs : List Blk) : Option (Bool) := match tendrillaw16_AskOne_P26v0 k vs bs with | some r => r | none => none
def tendrillaw16_AskOne_P38 (k : Nat) (vs : List SV) (bs : List Blk) : Option (Bool) := match tendrillaw16_AskOne_P38v0 k vs bs with | some r => r | none => none
def tendrillaw16_AskOne_P52 (k : Nat) (vs : List SV) (bs : List Blk) : Option (Bool) := match tendrillaw16_AskOne_P52v0 k vs bs with | some r => r | none => none
def tendrillaw16_AskOne_Λ (k L : Nat) (vs : List SV) (bs : List Blk) : Option (Bool) := match Nat.beq L 26 with | true => tendrillaw16_AskOne_P26 k vs bs | false => match Nat.beq L 38 with | true => tendrillaw16_AskOne_P38 k vs bs | false => match Nat.beq L 52 with | true => tendrillaw16_AskOne_P52 k vs bs | false => none
noncomputable def tendrillaw16_AskOne_C : List (Cut (Tup [⟨false, .bool⟩])) := cuts Try.prog (lkΓ [(8, tendrillaw16_live_S), (9, tendrilref07_Few_S), (12, tendrilref07_Same_S), (15, ask_Do_S), (16, tendrilref06_Same_S), (17, tendrilref05_Same_S)]) Try.f4.ntmps [(52, [5, 7, 9, 13, 14, 17, 100]), (38, [5, 7, 9, 13, 14, 77, 78]), (26, [5, 7, 9, 13, 14, 57, 58])] (bodyOf Try.f4) (κ0 Try.prog Try.f4 false [⟨false, .bool⟩])
set_option maxRecDepth 5000000 in
theorem tendrillaw16_AskOne_c26 (k : Nat) (p0 : Int) (p1 : Int) (p2 : Int) (p3 : Int) (p4 : List Int) (p5 : List Int) (p6 : List Int) (p7 : List Int) (p8 : List Int) (p9 : List Int) (p10 : List Int) (p11 : List Int) (p12 : List Int) (p13 : List Int) (p14 : List Int) (p15 : List Int) (p16 : List Int) (p17 : List Int) (p18 : Int) (p19 : List Int) (p20 : Int) (p21 : Int) (p22 : Int) (p23 : Int) (p24 : Int) (p25 : Int) (p26 : List Int) (p27 : List Int) (p28 : List Int) (p29 : List Int) (p30 : List Int) (p31 : List Int) (p32 : List Int) (p33 : List Int) (p34 : List Int) (p35 : List Int) (p36 : List Int) (p37 : List Int) (p38 : List Int) (p39 : List Int) (p40 : Int) (p41 : List Int) : ((nthC tendrillaw16_AskOne_C 0).g (mkSt [5, 7, 9, 13, 14, 57, 58] [.val (.one (.ptr 0 0)), .val (.one (.ptr 1 0)), .val (.one (.ptr 2 0)), .val (.one (.int .i64 p0)), .val (.one (.int .i64 p1)), .val (.one (.int .i64 p2)), .val (.one (.int .i64 p3))] [.box [(.sl .int p4), (.sl .int p5), (.sl .int p6), (.sl .int p7), (.sl .int p8), (.sl .int p9), (.sl .int p10), (.sl .int p11), (.sl .int p12), (.sl .int p13), (.sl .int p14), (.sl .int p15), (.sl .int p16), (.sl .int p17), (.int .i64 p18), (.sl .int p19)], .box [(.int .i64 p20), (.int .i64 p21), (.int .i64 p22), (.int .i64 p23), (.int .i64 p24), (.int .i64 p25)], .box [(.sl .int p26), (.sl .int p27), (.sl .int p28), (.sl .int p29), (.sl .int p30), (.sl .int p31), (.sl .int p32), (.sl .int p33), (.sl .int p34), (.sl .int p35), (.sl .int p36), (.sl .int p37), (.sl .int p38), (.sl .int p39), (.int .i64 p40), (.sl .int p41)]])).run (tendrillaw16_AskOne_Λ k) = tendrillaw16_AskOne_L26 (k + 1) p0 p1 p2 p3 p4 p5 p6 p7 p8 p9 p10 p11 p12 p13 p14 p15 p16 p17 p18 p19 p20 p21 p22 p23 p24 p25 p26 p27 p28 p29 p30 p31 p32 p33 p34 p35 p36 p37 p38 p39 p40 p41 := by kernel_rfl
set_option maxHeartbeats 0 in
set_option maxRecDepth 5000000 in
theorem tendrillaw16_AskOne_e26 (k : Nat) (vs : List SV) (bs : List Blk) (r : Bool) (h : tendrillaw16_AskOne_P26v0 (k + 1) vs bs = some (some r)) : ((nthC tendrillaw16_AskOne_C 0).g (mkSt [5, 7, 9, 13, 14, 57, 58] vs bs)).run (tendrillaw16_AskOne_Λ k) = some r := by
  unfold tendrillaw16_AskOne_P26v0 at h
  split at h
  · exact (tendrillaw16_AskOne_c26 k _ _ _ _ _ _ _ _ _ _ _ _ _ _ _ _ _ _ _ _ _ _ _ _ _ _ _ _ _ _ _ _ _ _ _ _ _ _ _ _ _ _).trans (Option.some.inj h)
  · cases h
set_option maxRecDepth 5000000 in
theorem tendrillaw16_AskOne_c38 (k : Nat) (p0 : Int) (p1 : Int) (p2 : Int) (p3 : Int) (p4 : List Int) (p5 : List Int) (p6 : List Int) (p7 : List Int) (p8 : List Int) (p9 : List Int) (p10 : List Int) (p11 : List Int) (p12 : List Int) (p13 : List Int) (p14 : List Int) (p15 : List Int) (p16 : List Int) (p17 : List Int) (p18 : Int) (p19 : List Int) (p20 : Int) (p21 : Int) (p22 : Int) (p23 : Int) (p24 : Int) (p25 : Int) (p26 : List Int) (p27 : List Int) (p28 : List Int) (p29 : List Int) (p30 : List Int) (p31 : List Int) (p32 : List Int) (p33 : List Int) (p34 : List Int) (p35 : List Int) (p36 : List Int) (p37 : List Int) (p38 : List Int) (p39 : List Int) (p40 : Int) (p41 : List Int) : ((nthC tendrillaw16_AskOne_C 1).g (mkSt [5, 7, 9, 13, 14, 77, 78] [.val (.one (.ptr 0 0)), .val (.one (.ptr 1 0)), .val (.one (.ptr 2 0)), .val (.one (.int .i64 p0)), .val (.one (.int .i64 p1)), .val (.one (.int .i64 p2)), .val (.one (.int .i64 p3))] [.box [(.sl .int p4), (.sl .int p5), (.sl .int p6), (.sl .int p7), (.sl .int p8), (.sl .int p9), (.sl .int p10), (.sl .int p11), (.sl .int p12), (.sl .int p13), (.sl .int p14), (.sl .int p15), (.sl .int p16), (.sl .int p17), (.int .i64 p18), (.sl .int p19)], .box [(.int .i64 p20), (.int .i64 p21), (.int .i64 p22), (.int .i64 p23), (.int .i64 p24), (.int .i64 p25)], .box [(.sl .int p26), (.sl .int p27), (.sl .int p28), (.sl .int p29), (.sl .int p30), (.sl .int p31), (.sl .int p32), (.sl .int p33), (.sl .int p34), (.sl .int p35), (.sl .int p36), (.sl .int p37), (.sl .int p38), (.sl .int p39), (.int .i64 p40), (.sl .int p41)]])).run (tendrillaw16_AskOne_Λ k) = tendrillaw16_AskOne_L38 (k + 1) p0 p1 p2 p3 p4 p5 p6 p7 p8 p9 p10 p11 p12 p13 p14 p15 p16 p17 p18 p19 p20 p21 p22 p23 p24 p25 p26 p27 p28 p29 p30 p31 p32 p33 p34 p35 p36 p37 p38 p39 p40 p41 := by kernel_rfl
set_option maxHeartbeats 0 in
set_option maxRecDepth 5000000 in
theorem tendrillaw16_AskOne_e38 (k : Nat) (vs : List SV) (bs : List Blk) (r : Bool) (h : tendrillaw16_AskOne_P38v0 (k + 1) vs bs = some (some r)) : ((nthC tendrillaw16_AskOne_C 1).g (mkSt [5, 7, 9, 13, 14, 77, 78] vs bs)).run (tendrillaw16_AskOne_Λ k) = some r := by
  unfold tendrillaw16_AskOne_P38v0 at h
  split at h
  · exact (tendrillaw16_AskOne_c38 k _ _ _ _ _ _ _ _ _ _ _ _ _ _ _ _ _ _ _ _ _ _ _ _ _ _ _ _ _ _ _ _ _ _ _ _ _ _ _ _ _ _).trans (Option.some.inj h)
  · cases h
set_option maxRecDepth 5000000 in
theorem tendrillaw16_AskOne_c52 (k : Nat) (p0 : Int) (p1 : Int) (p2 : Bool) (p3 : Int) (p4 : List Int) (p5 : List Int) (p6 : List Int) (p7 : List Int) (p8 : List Int) (p9 : List Int) (p10 : List Int) (p11 : List Int) (p12 : List Int) (p13 : List Int) (p14 : List Int) (p15 : List Int) (p16 : List Int) (p17 : List Int) (p18 : Int) (p19 : List Int) (p20 : Int) (p21 : Int) (p22 : Int) (p23 : Int) (p24 : Int) (p25 : Int) (p26 : List Int) (p27 : List Int) (p28 : List Int) (p29 : List Int) (p30 : List Int) (p31 : List Int) (p32 : List Int) (p33 : List Int) (p34 : List Int) (p35 : List Int) (p36 : List Int) (p37 : List Int) (p38 : List Int) (p39 : List Int) (p40 : Int) (p41 : List Int) : ((nthC tendrillaw16_AskOne_C 2).g (mkSt [5, 7, 9, 13, 14, 17, 100] [.val (.one (.ptr 0 0)), .val (.one (.ptr 1 0)), .val (.one (.ptr 2 0)), .val (.one (.int .i64 p0)), .val (.one (.int .i64 p1)), .val (.one (.bool p2)), .val (.one (.int .i64 p3))] [.box [(.sl .int p4), (.sl .int p5), (.sl .int p6), (.sl .int p7), (.sl .int p8), (.sl .int p9), (.sl .int p10), (.sl .int p11), (.sl .int p12), (.sl .int p13), (.sl .int p14), (.sl .int p15), (.sl .int p16), (.sl .int p17), (.int .i64 p18), (.sl .int p19)], .box [(.int .i64 p20), (.int .i64 p21), (.int .i64 p22), (.int .i64 p23), (.int .i64 p24), (.int .i64 p25)], .box [(.sl .int p26), (.sl .int p27), (.sl .int p28), (.sl .int p29), (.sl .int p30), (.sl .int p31), (.sl .int p32), (.sl .int p33), (.sl .int p34), (.sl .int p35), (.sl .int p36), (.sl .int p37), (.sl .int p38), (.sl .int p39), (.int .i64 p40), (.sl .int p41)]])).run (tendrillaw16_AskOne_Λ k) = tendrillaw16_AskOne_L52 (k + 1) p0 p1 p2 p3 p4 p5 p6 p7 p8 p9 p10 p11 p12 p13 p14 p15 p16 p17 p18 p19 p20 p21 p22 p23 p24 p25 p26 p27 p28 p29 p30 p31 p32 p33 p34 p35 p36 p37 p38 p39 p40 p41 := by kernel_rfl
set_option maxHeartbeats 0 in
set_option maxRecDepth 5000000 in
theorem tendrillaw16_AskOne_e52 (k : Nat) (vs : List SV) (bs : List Blk) (r : Bool) (h : tendrillaw16_AskOne_P52v0 (k + 1) vs bs = some (some r)) : ((nthC tendrillaw16_AskOne_C 2).g (mkSt [5, 7, 9, 13, 14, 17, 100] vs bs)).run (tendrillaw16_AskOne_Λ k) = some r := by
  unfold tendrillaw16_AskOne_P52v0 at h
  split at h
  · exact (tendrillaw16_AskOne_c52 k _ _ _ _ _ _ _ _ _ _ _ _ _ _ _ _ _ _ _ _ _ _ _ _ _ _ _ _ _ _ _ _ _ _ _ _ _ _ _ _ _ _).trans (Option.some.inj h)
  · cases h
theorem tendrillaw16_AskOne_d26 : CutOk tendrillaw16_AskOne_Λ (nthC tendrillaw16_AskOne_C 0) := by
  refine cutOk_of (L := 26) (live := [5, 7, 9, 13, 14, 57, 58]) (by kernel_rfl) (by kernel_rfl) fun k vs bs r h => ?_
  change tendrillaw16_AskOne_P26 (k + 1) vs bs = some r at h
  unfold tendrillaw16_AskOne_P26 at h
  split at h
  · rename_i q hq
    exact tendrillaw16_AskOne_e26 k vs bs r (hq.trans (congrArg some h))
  cases h
theorem tendrillaw16_AskOne_d38 : CutOk tendrillaw16_AskOne_Λ (nthC tendrillaw16_AskOne_C 1) := by
  refine cutOk_of (L := 38) (live := [5, 7, 9, 13, 14, 77, 78]) (by kernel_rfl) (by kernel_rfl) fun k vs bs r h => ?_
  change tendrillaw16_AskOne_P38 (k + 1) vs bs = some r at h
  unfold tendrillaw16_AskOne_P38 at h
  split at h
  · rename_i q hq
    exact tendrillaw16_AskOne_e38 k vs bs r (hq.trans (congrArg some h))
  cases h
theorem tendrillaw16_AskOne_d52 : CutOk tendrillaw16_AskOne_Λ (nthC tendrillaw16_AskOne_C 2) := by
  refine cutOk_of (L := 52) (live := [5, 7, 9, 13, 14, 17, 100]) (by kernel_rfl) (by kernel_rfl) fun k vs bs r h => ?_
  change tendrillaw16_AskOne_P52 (k + 1) vs bs = some r at h
  unfold tendrillaw16_AskOne_P52 at h
  split at h
  · rename_i q hq
    exact tendrillaw16_AskOne_e52 k vs bs r (hq.trans (congrArg some h))
  cases h
theorem tendrillaw16_AskOne_cuts : ∀ p ∈ cuts Try.prog (lkΓ [(8, tendrillaw16_live_S), (9, tendrilref07_Few_S), (12, tendrilref07_Same_S), (15, ask_Do_S), (16, tendrilref06_Same_S), (17, tendrilref05_Same_S)]) Try.f4.ntmps [(52, [5, 7, 9, 13, 14, 17, 100]), (38, [5, 7, 9, 13, 14, 77, 78]), (26, [5, 7, 9, 13, 14, 57, 58])] (bodyOf Try.f4) (κ0 Try.prog Try.f4 false [⟨false, .bool⟩]), CutOk tendrillaw16_AskOne_Λ p := cutsOk (l := tendrillaw16_AskOne_C) (n := 3) (by kernel_rfl) fun
  | 0, _ => tendrillaw16_AskOne_d26
  | 1, _ => tendrillaw16_AskOne_d38
  | 2, _ => tendrillaw16_AskOne_d52
  | k + 3, h => absurd h (by omega)
set_option maxHeartbeats 0 in
set_option maxRecDepth 5000000 in
theorem tendrillaw16_AskOne_z26 (vs : List SV) (bs : List Blk) (q : Option (Bool)) (h : tendrillaw16_AskOne_P26v0 0 vs bs = some q) : q = none := by
  unfold tendrillaw16_AskOne_P26v0 at h; split at h
  · have h := Option.some.inj h; rw [← h]; first | rfl | (unfold tendrillaw16_AskOne_L26; rfl)
  · cases h
set_option maxHeartbeats 0 in
set_option maxRecDepth 5000000 in
theorem tendrillaw16_AskOne_z38 (vs : List SV) (bs : List Blk) (q : Option (Bool)) (h : tendrillaw16_AskOne_P38v0 0 vs bs = some q) : q = none := by
  unfold tendrillaw16_AskOne_P38v0 at h; split at h
  · have h := Option.some.inj h; rw [← h]; first | rfl | (unfold tendrillaw16_AskOne_L38; rfl)
  · cases h
set_option maxHeartbeats 0 in
set_option maxRecDepth 5000000 in
theorem tendrillaw16_AskOne_z52 (vs : List SV) (bs : List Blk) (q : Option (Bool)) (h : tendrillaw16_AskOne_P52v0 0 vs bs = some q) : q = none := by
  unfold tendrillaw16_AskOne_P52v0 at h; split at h
  · have h := Option.some.inj h; rw [← h]; first | rfl | (unfold tendrillaw16_AskOne_L52; rfl)
  · cases h
theorem tendrillaw16_AskOne_Λ0 (L : Nat) (vs : List SV) (bs : List Blk) : tendrillaw16_AskOne_Λ 0 L vs bs = none := by
  unfold tendrillaw16_AskOne_Λ
  split
  · unfold tendrillaw16_AskOne_P26
    split
    · rename_i q hq; exact tendrillaw16_AskOne_z26 _ _ q hq
    rfl
  split
  · unfold tendrillaw16_AskOne_P38
    split
    · rename_i q hq; exact tendrillaw16_AskOne_z38 _ _ q hq
    rfl
  split
  · unfold tendrillaw16_AskOne_P52
    split
    · rename_i q hq; exact tendrillaw16_AskOne_z52 _ _ q hq
    rfl
  rfl
set_option maxRecDepth 5000000 in
theorem tendrillaw16_AskOne_run (K : Nat) (x : Tup [⟨true, (.pair .int (.pair .int (.pair .int (.pair .int .int))))⟩, ⟨true, (.pair (.sl .int) (.pair (.sl .int) (.pair (.pair (.pair (.sl .int) (.pair (.sl .int) (.pair (.sl .int) (.sl .int)))) (.pair (.pair (.sl .int) (.pair (.sl .int) (.pair (.sl .int) (.sl .int)))) (.pair (.sl .int) (.pair (.sl .int) (.pair (.sl .int) (.sl .int)))))) (.pair .int (.sl .int)))))⟩, ⟨false, .int⟩, ⟨true, (.pair .int (.pair .int (.pair .int (.pair .int (.pair .int .int)))))⟩]) : (pxFn Try.prog (lkΓ [(8, tendrillaw16_live_S), (9, tendrilref07_Few_S), (12, tendrilref07_Same_S), (15, ask_Do_S), (16, tendrilref06_Same_S), (17, tendrilref05_Same_S)]) [(52, [5, 7, 9, 13, 14, 17, 100]), (38, [5, 7, 9, 13, 14, 77, 78]), (26, [5, 7, 9, 13, 14, 57, 58])] Try.f4 (bodyOf Try.f4) false [⟨false, .bool⟩] (encTup [⟨true, (.pair .int (.pair .int (.pair .int (.pair .int .int))))⟩, ⟨true, (.pair (.sl .int) (.pair (.sl .int) (.pair (.pair (.pair (.sl .int) (.pair (.sl .int) (.pair (.sl .int) (.sl .int)))) (.pair (.pair (.sl .int) (.pair (.sl .int) (.pair (.sl .int) (.sl .int)))) (.pair (.sl .int) (.pair (.sl .int) (.pair (.sl .int) (.sl .int)))))) (.pair .int (.sl .int)))))⟩, ⟨false, .int⟩, ⟨true, (.pair .int (.pair .int (.pair .int (.pair .int (.pair .int .int)))))⟩] x)).run (tendrillaw16_AskOne_Λ K) = tendrillaw16_AskOne_K K x := by kernel_rfl
set_option maxHeartbeats 0 in
set_option maxRecDepth 5000000 in
def slices_IndexFunc_era_Turn_1_P6v0 (k : Nat) (vs : List SV) (bs : List Blk) : Option (Option (Int)) := match vs, bs with
  | [.val (.one (.sl .int p0)), .val (.one (.clo 89 (.ref (.pair .int (.sl .int))) p1)), .val (.one (.int .i64 p2)), .val (.one (.int .i64 p3))], [] => some (slices_IndexFunc_era_Turn_1_L6 k p0 p1 p2 p3)
  | _, _ => none
def slices_IndexFunc_era_Turn_1_P6 (k : Nat) (vs : List SV) (bs : List Blk) : Option (Int) := match slices_IndexFunc_era_Turn_1_P6v0 k vs bs with | some r => r | none => none
def slices_IndexFunc_era_Turn_1_Λ (k L : Nat) (vs : List SV) (bs : List Blk) : Option (Int) := match Nat.beq L 6 with | true => slices_IndexFunc_era_Turn_1_P6 k vs bs | false => none
noncomputable def slices_IndexFunc_era_Turn_1_C : List (Cut (Tup [⟨false, .int⟩])) := cuts Try.prog (lkΓ [(89, era_Turn_1_S)]) Try.f64.ntmps [(6, [0, 1, 7, 8])] (bodyOf Try.f64) (κ0 Try.prog Try.f64 false [⟨false, .int⟩])
set_option maxRecDepth 5000000 in
theorem slices_IndexFunc_era_Turn_1_c6 (k : Nat) (p0 : List Int) (p1 : Int × List Int) (p2 : Int) (p3 : Int) : ((nthC slices_IndexFunc_era_Turn_1_C 0).g (mkSt [0, 1, 7, 8] [.val (.one (.sl .int p0)), .val (.one (.clo 89 (.ref (.pair .int (.sl .int))) p1)), .val (.one (.int .i64 p2)), .val (.one (.int .i64 p3))] [])).run (slices_IndexFunc_era_Turn_1_Λ k) = slices_IndexFunc_era_Turn_1_L6 (k + 1) p0 p1 p2 p3 := by kernel_rfl
set_option maxHeartbeats 0 in
set_option maxRecDepth 5000000 in
theorem slices_IndexFunc_era_Turn_1_e6 (k : Nat) (vs : List SV) (bs : List Blk) (r : Int) (h : slices_IndexFunc_era_Turn_1_P6v0 (k + 1) vs bs = some (some r)) : ((nthC slices_IndexFunc_era_Turn_1_C 0).g (mkSt [0, 1, 7, 8] vs bs)).run (slices_IndexFunc_era_Turn_1_Λ k) = some r := by
  unfold slices_IndexFunc_era_Turn_1_P6v0 at h
  split at h
  · exact (slices_IndexFunc_era_Turn_1_c6 k _ _ _ _).trans (Option.some.inj h)
  · cases h
theorem slices_IndexFunc_era_Turn_1_d6 : CutOk slices_IndexFunc_era_Turn_1_Λ (nthC slices_IndexFunc_era_Turn_1_C 0) := by
  refine cutOk_of (L := 6) (live := [0, 1, 7, 8]) (by kernel_rfl) (by kernel_rfl) fun k vs bs r h => ?_
  change slices_IndexFunc_era_Turn_1_P6 (k + 1) vs bs = some r at h
  unfold slices_IndexFunc_era_Turn_1_P6 at h
  split at h
  · rename_i q hq
    exact slices_IndexFunc_era_Turn_1_e6 k vs bs r (hq.trans (congrArg some h))
  cases h
theorem slices_IndexFunc_era_Turn_1_cuts : ∀ p ∈ cuts Try.prog (lkΓ [(89, era_Turn_1_S)]) Try.f64.ntmps [(6, [0, 1, 7, 8])] (bodyOf Try.f64) (κ0 Try.prog Try.f64 false [⟨false, .int⟩]), CutOk slices_IndexFunc_era_Turn_1_Λ p := cutsOk (l := slices_IndexFunc_era_Turn_1_C) (n := 1) (by kernel_rfl) fun
  | 0, _ => slices_IndexFunc_era_Turn_1_d6
  | k + 1, h => absurd h (by omega)
set_option maxHeartbeats 0 in
set_option maxRecDepth 5000000 in
theorem slices_IndexFunc_era_Turn_1_z6 (vs : List SV) (bs : List Blk) (q : Option (Int)) (h : slices_IndexFunc_era_Turn_1_P6v0 0 vs bs = some q) : q = none := by
  unfold slices_IndexFunc_era_Turn_1_P6v0 at h; split at h
  · have h := Option.some.inj h; rw [← h]; first | rfl | (unfold slices_IndexFunc_era_Turn_1_L6; rfl)
  · cases h
theorem slices_IndexFunc_era_Turn_1_Λ0 (L : Nat) (vs : List SV) (bs : List Blk) : slices_IndexFunc_era_Turn_1_Λ 0 L vs bs = none := by
  unfold slices_IndexFunc_era_Turn_1_Λ
  split
  · unfold slices_IndexFunc_era_Turn_1_P6
    split
    · rename_i q hq; exact slices_IndexFunc_era_Turn_1_z6 _ _ q hq
    rfl
  rfl
set_option maxRecDepth 5000000 in
theorem slices_IndexFunc_era_Turn_1_run (K : Nat) (x : Tup [⟨false, (.sl .int)⟩, ⟨false, (.clo 89 (.ref (.pair .int (.sl .int))))⟩]) : (pxFn Try.prog (lkΓ [(89, era_Turn_1_S)]) [(6, [0, 1, 7, 8])] Try.f64 (bodyOf Try.f64) false [⟨false, .int⟩] (encTup [⟨false, (.sl .int)⟩, ⟨false, (.clo 89 (.ref (.pair .int (.sl .int))))⟩] x)).run (slices_IndexFunc_era_Turn_1_Λ K) = slices_IndexFunc_era_Turn_1_K K x := by kernel_rfl
set_option maxHeartbeats 0 in
set_option maxRecDepth 5000000 in
def tendrilref03_Check_P6v0 (k : Nat) (vs : List SV) (bs : List Blk) : Option (Option (Int)) := match vs, bs with
  | [.val (.one (.row 0)), .val (.one (.int .i64 p0)), .val (.one (.int .i64 p1))], [.row .int p2] => some (tendrilref03_Check_L6 k p0 p1 p2)
  | _, _ => none
def tendrilref03_Check_P6 (k : Nat) (vs : List SV) (bs : List Blk) : Option (Int) := match tendrilref03_Check_P6v0 k vs bs with | some r => r | none => none
def tendrilref03_Check_Λ (k L : Nat) (vs : List SV) (bs : List Blk) : Option (Int) := match Nat.beq L 6 with | true => tendrilref03_Check_P6 k vs bs | false => none
noncomputable def tendrilref03_Check_C : List (Cut (Tup [⟨false, .int⟩])) := cuts Try.prog (lkΓ []) Try.f44.ntmps [(6, [15, 16, 17])] (bodyOf Try.f44) (κ0 Try.prog Try.f44 false [⟨false, .int⟩])
set_option maxRecDepth 5000000 in
theorem tendrilref03_Check_c6 (k : Nat) (p0 : Int) (p1 : Int) (p2 : List Int) : ((nthC tendrilref03_Check_C 0).g (mkSt [15, 16, 17] [.val (.one (.row 0)), .val (.one (.int .i64 p0)), .val (.one (.int .i64 p1))] [.row .int p2])).run (tendrilref03_Check_Λ k) = tendrilref03_Check_L6 (k + 1) p0 p1 p2 := by kernel_rfl
set_option maxHeartbeats 0 in
set_option maxRecDepth 5000000 in
theorem tendrilref03_Check_e6 (k : Nat) (vs : List SV) (bs : List Blk) (r : Int) (h : tendrilref03_Check_P6v0 (k + 1) vs bs = some (some r)) : ((nthC tendrilref03_Check_C 0).g (mkSt [15, 16, 17] vs bs)).run (tendrilref03_Check_Λ k) = some r := by
  unfold tendrilref03_Check_P6v0 at h
  split at h
  · exact (tendrilref03_Check_c6 k _ _ _).trans (Option.some.inj h)
  · cases h
theorem tendrilref03_Check_d6 : CutOk tendrilref03_Check_Λ (nthC tendrilref03_Check_C 0) := by
  refine cutOk_of (L := 6) (live := [15, 16, 17]) (by kernel_rfl) (by kernel_rfl) fun k vs bs r h => ?_
  change tendrilref03_Check_P6 (k + 1) vs bs = some r at h
  unfold tendrilref03_Check_P6 at h
  split at h
  · rename_i q hq
    exact tendrilref03_Check_e6 k vs bs r (hq.trans (congrArg some h))
  cases h
theorem tendrilref03_Check_cuts : ∀ p ∈ cuts Try.prog (lkΓ []) Try.f44.ntmps [(6, [15, 16, 17])] (bodyOf Try.f44) (κ0 Try.prog Try.f44 false [⟨false, .int⟩]), CutOk tendrilref03_Check_Λ p := cutsOk (l := tendrilref03_Check_C) (n := 1) (by kernel_rfl) fun
  | 0, _ => tendrilref03_Check_d6
  | k + 1, h => absurd h (by omega)
set_option maxHeartbeats 0 in
set_option maxRecDepth 5000000 in
theorem tendrilref03_Check_z6 (vs : List SV) (bs : List Blk) (q : Option (Int)) (h : tendrilref03_Check_P6v0 0 vs bs = some q) : q = none := by
  unfold tendrilref03_Check_P6v0 at h; split at h
  · have h := Option.some.inj h; rw [← h]; first | rfl | (unfold tendrilref03_Check_L6; rfl)
  · cases h
theorem tendrilref03_Check_Λ0 (L : Nat) (vs : List SV) (bs : List Blk) : tendrilref03_Check_Λ 0 L vs bs = none := by
  unfold tendrilref03_Check_Λ
  split
  · unfold tendrilref03_Check_P6
    split
    · rename_i q hq; exact tendrilref03_Check_z6 _ _ q hq
    rfl
  rfl
set_option maxRecDepth 5000000 in
theorem tendrilref03_Check_run (K : Nat) (x : Tup [⟨true, (.pair .int (.pair .int (.pair .int (.pair .int .int))))⟩]) : (pxFn Try.prog (lkΓ []) [(6, [15, 16, 17])] Try.f44 (bodyOf Try.f44) false [⟨false, .int⟩] (encTup [⟨true, (.pair .int (.pair .int (.pair .int (.pair .int .int))))⟩] x)).run (tendrilref03_Check_Λ K) = tendrilref03_Check_K K x := by kernel_rfl
set_option maxRecDepth 5000000 in
theorem ask_records_run (x : Tup [⟨true, (.pair (.sl .int) (.pair (.sl .int) (.pair (.pair (.pair (.sl .int) (.pair (.sl .int) (.pair (.sl .int) (.sl .int)))) (.pair (.pair (.sl .int) (.pair (.sl .int) (.pair (.sl .int) (.sl .int)))) (.pair (.sl .int) (.pair (.sl .int) (.pair (.sl .int) (.sl .int)))))) (.pair .int (.sl .int)))))⟩, ⟨false, .int⟩, ⟨true, (.pair .int (.pair .int (.pair .int (.pair .int (.pair .int .int)))))⟩]) : (pxFn Try.prog (lkΓ [(57, arena_Pin_S), (58, arena_End_S), (59, arena_Retire_S), (60, arena_Take_S)]) [] Try.f33 (bodyOf Try.f33) false [⟨true, (.pair (.sl .int) (.pair (.sl .int) (.pair (.pair (.pair (.sl .int) (.pair (.sl .int) (.pair (.sl .int) (.sl .int)))) (.pair (.pair (.sl .int) (.pair (.sl .int) (.pair (.sl .int) (.sl .int)))) (.pair (.sl .int) (.pair (.sl .int) (.pair (.sl .int) (.sl .int)))))) (.pair .int (.sl .int)))))⟩, ⟨false, .int⟩, ⟨false, .int⟩] (encTup [⟨true, (.pair (.sl .int) (.pair (.sl .int) (.pair (.pair (.pair (.sl .int) (.pair (.sl .int) (.pair (.sl .int) (.sl .int)))) (.pair (.pair (.sl .int) (.pair (.sl .int) (.pair (.sl .int) (.sl .int)))) (.pair (.sl .int) (.pair (.sl .int) (.pair (.sl .int) (.sl .int)))))) (.pair .int (.sl .int)))))⟩, ⟨false, .int⟩, ⟨true, (.pair .int (.pair .int (.pair .int (.pair .int (.pair .int .int)))))⟩] x)).run (fun _ _ _ => none) = ask_records x := by kernel_rfl
theorem ask_records_cuts : ∀ p ∈ cuts Try.prog (lkΓ [(57, arena_Pin_S), (58, arena_End_S), (59, arena_Retire_S), (60, arena_Take_S)]) Try.f33.ntmps [] (bodyOf Try.f33) (κ0 Try.prog Try.f33 false [⟨true, (.pair (.sl .int) (.pair (.sl .int) (.pair (.pair (.pair (.sl .int) (.pair (.sl .int) (.pair (.sl .int) (.sl .int)))) (.pair (.pair (.sl .int) (.pair (.sl .int) (.pair (.sl .int) (.sl .int)))) (.pair (.sl .int) (.pair (.sl .int) (.pair (.sl .int) (.sl .int)))))) (.pair .int (.sl .int)))))⟩, ⟨false, .int⟩, ⟨false, .int⟩]), CutOk (fun _ _ _ _ => none) p := cutsNil (by kernel_rfl)
set_option maxRecDepth 5000000 in
theorem tendrillaw16_AskBegins_run (x : Tup [⟨true, (.pair .int (.pair .int (.pair .int (.pair .int .int))))⟩, ⟨false, .int⟩, ⟨true, (.pair (.sl .int) (.pair (.sl .int) (.pair (.pair (.pair (.sl .int) (.pair (.sl .int) (.pair (.sl .int) (.sl .int)))) (.pair (.pair (.sl .int) (.pair (.sl .int) (.pair (.sl .int) (.sl .int)))) (.pair (.sl .int) (.pair (.sl .int) (.pair (.sl .int) (.sl .int)))))) (.pair .int (.sl .int)))))⟩, ⟨true, (.pair .int (.pair .int (.pair .int (.pair .int (.pair .int .int)))))⟩]) : (pxFn Try.prog (lkΓ [(8, tendrillaw16_live_S), (9, tendrilref07_Few_S), (10, ask_New_S), (11, tendrilref15_New_S), (12, tendrilref07_Same_S), (13, ask_Waits_S), (14, tendrilref16_Waits_S)]) [] Try.f3 (bodyOf Try.f3) false [⟨false, .bool⟩] (encTup [⟨true, (.pair .int (.pair .int (.pair .int (.pair .int .int))))⟩, ⟨false, .int⟩, ⟨true, (.pair (.sl .int) (.pair (.sl .int) (.pair (.pair (.pair (.sl .int) (.pair (.sl .int) (.pair (.sl .int) (.sl .int)))) (.pair (.pair (.sl .int) (.pair (.sl .int) (.pair (.sl .int) (.sl .int)))) (.pair (.sl .int) (.pair (.sl .int) (.pair (.sl .int) (.sl .int)))))) (.pair .int (.sl .int)))))⟩, ⟨true, (.pair .int (.pair .int (.pair .int (.pair .int (.pair .int .int)))))⟩] x)).run (fun _ _ _ => none) = tendrillaw16_AskBegins x := by kernel_rfl
theorem tendrillaw16_AskBegins_cuts : ∀ p ∈ cuts Try.prog (lkΓ [(8, tendrillaw16_live_S), (9, tendrilref07_Few_S), (10, ask_New_S), (11, tendrilref15_New_S), (12, tendrilref07_Same_S), (13, ask_Waits_S), (14, tendrilref16_Waits_S)]) Try.f3.ntmps [] (bodyOf Try.f3) (κ0 Try.prog Try.f3 false [⟨false, .bool⟩]), CutOk (fun _ _ _ _ => none) p := cutsNil (by kernel_rfl)
set_option maxRecDepth 5000000 in
theorem tendrilref16_Waits_run (x : Tup [⟨true, (.pair (.sl .int) (.pair (.sl .int) (.pair (.pair (.pair (.sl .int) (.pair (.sl .int) (.pair (.sl .int) (.sl .int)))) (.pair (.pair (.sl .int) (.pair (.sl .int) (.pair (.sl .int) (.sl .int)))) (.pair (.sl .int) (.pair (.sl .int) (.pair (.sl .int) (.sl .int)))))) (.pair .int (.sl .int)))))⟩, ⟨true, (.pair .int (.pair .int (.pair .int (.pair .int (.pair .int .int)))))⟩]) : (pxFn Try.prog (lkΓ [(29, tendrilref08_Held_S)]) [] Try.f14 (bodyOf Try.f14) false [⟨false, .bool⟩] (encTup [⟨true, (.pair (.sl .int) (.pair (.sl .int) (.pair (.pair (.pair (.sl .int) (.pair (.sl .int) (.pair (.sl .int) (.sl .int)))) (.pair (.pair (.sl .int) (.pair (.sl .int) (.pair (.sl .int) (.sl .int)))) (.pair (.sl .int) (.pair (.sl .int) (.pair (.sl .int) (.sl .int)))))) (.pair .int (.sl .int)))))⟩, ⟨true, (.pair .int (.pair .int (.pair .int (.pair .int (.pair .int .int)))))⟩] x)).run (fun _ _ _ => none) = tendrilref16_Waits x := by kernel_rfl
theorem tendrilref16_Waits_cuts : ∀ p ∈ cuts Try.prog (lkΓ [(29, tendrilref08_Held_S)]) Try.f14.ntmps [] (bodyOf Try.f14) (κ0 Try.prog Try.f14 false [⟨false, .bool⟩]), CutOk (fun _ _ _ _ => none) p := cutsNil (by kernel_rfl)
set_option maxRecDepth 5000000 in
theorem pool_Retire_run (x : Tup [⟨true, (.pair (.sl .int) (.pair (.sl .int) (.pair (.sl .int) (.sl .int))))⟩, ⟨false, .int⟩, ⟨false, .int⟩]) : (pxFn Try.prog (lkΓ [(19, tag_Unpack_S), (61, pool_Check_S), (84, pool_own_S)]) [] Try.f73 (bodyOf Try.f73) true [⟨true, (.pair (.sl .int) (.pair (.sl .int) (.pair (.sl .int) (.sl .int))))⟩, ⟨false, .int⟩] (encTup [⟨true, (.pair (.sl .int) (.pair (.sl .int) (.pair (.sl .int) (.sl .int))))⟩, ⟨false, .int⟩, ⟨false, .int⟩] x)).run (fun _ _ _ => none) = pool_Retire x := by kernel_rfl
theorem pool_Retire_cuts : ∀ p ∈ cuts Try.prog (lkΓ [(19, tag_Unpack_S), (61, pool_Check_S), (84, pool_own_S)]) Try.f73.ntmps [] (bodyOf Try.f73) (κ0 Try.prog Try.f73 true [⟨true, (.pair (.sl .int) (.pair (.sl .int) (.pair (.sl .int) (.sl .int))))⟩, ⟨false, .int⟩]), CutOk (fun _ _ _ _ => none) p := cutsNil (by kernel_rfl)
set_option maxRecDepth 5000000 in
theorem place_Field_run (x : Tup [⟨true, (.pair .int (.pair .int (.pair .int (.pair .int .int))))⟩, ⟨false, .int⟩, ⟨false, .int⟩, ⟨false, .int⟩]) : (pxFn Try.prog (lkΓ [(34, place_Check_S), (63, place_kinds_S)]) [] Try.f78 (bodyOf Try.f78) false [⟨false, .int⟩, ⟨false, .int⟩] (encTup [⟨true, (.pair .int (.pair .int (.pair .int (.pair .int .int))))⟩, ⟨false, .int⟩, ⟨false, .int⟩, ⟨false, .int⟩] x)).run (fun _ _ _ => none) = place_Field x := by kernel_rfl
theorem place_Field_cuts : ∀ p ∈ cuts Try.prog (lkΓ [(34, place_Check_S), (63, place_kinds_S)]) Try.f78.ntmps [] (bodyOf Try.f78) (κ0 Try.prog Try.f78 false [⟨false, .int⟩, ⟨false, .int⟩]), CutOk (fun _ _ _ _ => none) p := cutsNil (by kernel_rfl)
set_option maxRecDepth 5000000 in
theorem math_bits_Mul_run (x : Tup [⟨false, (.num .u64)⟩, ⟨false, (.num .u64)⟩]) : (pxFn Try.prog (lkΓ [(87, math_bits_Mul32_S), (88, math_bits_Mul64_S)]) [] Try.f77 (bodyOf Try.f77) false [⟨false, (.num .u64)⟩, ⟨false, (.num .u64)⟩] (encTup [⟨false, (.num .u64)⟩, ⟨false, (.num .u64)⟩] x)).run (fun _ _ _ => none) = math_bits_Mul x := by kernel_rfl
theorem math_bits_Mul_cuts : ∀ p ∈ cuts Try.prog (lkΓ [(87, math_bits_Mul32_S), (88, math_bits_Mul64_S)]) Try.f77.ntmps [] (bodyOf Try.f77) (κ0 Try.prog Try.f77 false [⟨false, (.num .u64)⟩, ⟨false, (.num .u64)⟩]), CutOk (fun _ _ _ _ => none) p := cutsNil (by kernel_rfl)
set_option maxRecDepth 5000000 in
theorem tendrilref03_Size_run (x : Tup [⟨true, (.pair .int (.pair .int (.pair .int (.pair .int .int))))⟩]) : (pxFn Try.prog (lkΓ [(44, tendrilref03_Check_S)]) [] Try.f47 (bodyOf Try.f47) false [⟨false, .int⟩] (encTup [⟨true, (.pair .int (.pair .int (.pair .int (.pair .int .int))))⟩] x)).run (fun _ _ _ => none) = tendrilref03_Size x := by kernel_rfl
theorem tendrilref03_Size_cuts : ∀ p ∈ cuts Try.prog (lkΓ [(44, tendrilref03_Check_S)]) Try.f47.ntmps [] (bodyOf Try.f47) (κ0 Try.prog Try.f47 false [⟨false, .int⟩]), CutOk (fun _ _ _ _ => none) p := cutsNil (by kernel_rfl)
set_option maxRecDepth 5000000 in
theorem era_pinned_run (x : Tup [⟨true, (.pair .int (.sl .int))⟩, ⟨false, .int⟩]) : (pxFn Try.prog (lkΓ [(62, era_Check_S)]) [] Try.f79 (bodyOf Try.f79) false [⟨false, .int⟩, ⟨false, .int⟩] (encTup [⟨true, (.pair .int (.sl .int))⟩, ⟨false, .int⟩] x)).run (fun _ _ _ => none) = era_pinned x := by kernel_rfl
theorem era_pinned_cuts : ∀ p ∈ cuts Try.prog (lkΓ [(62, era_Check_S)]) Try.f79.ntmps [] (bodyOf Try.f79) (κ0 Try.prog Try.f79 false [⟨false, .int⟩, ⟨false, .int⟩]), CutOk (fun _ _ _ _ => none) p := cutsNil (by kernel_rfl)
set_option maxRecDepth 5000000 in
theorem era_New_run (x : Tup [⟨false, .int⟩]) : (pxFn Try.prog (lkΓ [(65, slices_Repeat_S)]) [] Try.f40 (bodyOf Try.f40) true [⟨true, (.pair .int (.sl .int))⟩, ⟨false, .int⟩] (encTup [⟨false, .int⟩] x)).run (fun _ _ _ => none) = era_New x := by kernel_rfl
theorem era_New_cuts : ∀ p ∈ cuts Try.prog (lkΓ [(65, slices_Repeat_S)]) Try.f40.ntmps [] (bodyOf Try.f40) (κ0 Try.prog Try.f40 true [⟨true, (.pair .int (.sl .int))⟩, ⟨false, .int⟩]), CutOk (fun _ _ _ _ => none) p := cutsNil (by kernel_rfl)
set_option maxRecDepth 5000000 in
theorem tag_Pack_run (x : Tup [⟨false, .int⟩, ⟨false, .int⟩]) : (pxFn Try.prog (lkΓ []) [] Try.f85 (bodyOf Try.f85) false [⟨false, .int⟩, ⟨false, .int⟩] (encTup [⟨false, .int⟩, ⟨false, .int⟩] x)).run (fun _ _ _ => none) = tag_Pack x := by kernel_rfl
theorem tag_Pack_cuts : ∀ p ∈ cuts Try.prog (lkΓ []) Try.f85.ntmps [] (bodyOf Try.f85) (κ0 Try.prog Try.f85 false [⟨false, .int⟩, ⟨false, .int⟩]), CutOk (fun _ _ _ _ => none) p := cutsNil (by kernel_rfl)
end Go.Proofs.YtcoiboghdmmdcadFn
