/- What the interpreter of code computes of these functions, part 5; no condition. -/
import Derived.Test.YthnbleblmpnfhaaProg
import Derived.KernelRfl
import Derived.Test.YthnbleblmpnfhaaPx25
import Derived.Test.YthnbleblmpnfhaaFolD
import Derived.Test.YthnbleblmpnfhaaFnsD
set_option linter.unusedVariables false
set_option linter.unusedSimpArgs false
namespace Go.Proofs.YthnbleblmpnfhaaFn
open Go Go.RowKit Go.Proofs.YthnbleblmpnfhaaPx
set_option maxHeartbeats 0 in
set_option maxRecDepth 5000000 in
def tendrilref03_Field_P14v0 (k : Nat) (vs : List SV) (bs : List Blk) : Option (Option (Int × Int)) := match vs, bs with
  | [.val (.one (.int .i64 p0)), .val (.one (.int .i64 p1)), .val (.one (.int .i64 p2)), .val (.one (.ptr 0 0)), .val (.one (.int .i64 p3)), .val (.one (.int .i64 p4)), .val (.one (.int .i64 p5))], [.box [(.int .i64 p6), (.int .i64 p7), (.int .i64 p8), (.int .i64 p9), (.int .i64 p10)]] => some (tendrilref03_Field_L14 k p0 p1 p2 p3 p4 p5 p6 p7 p8 p9 p10)
  | _, _ => none
def tendrilref03_Field_P14 (k : Nat) (vs : List SV) (bs : List Blk) : Option (Int × Int) := match tendrilref03_Field_P14v0 k vs bs with | some r => r | none => none
def tendrilref03_Field_Λ (k L : Nat) (vs : List SV) (bs : List Blk) : Option (Int × Int) := match Nat.beq L 14 with | true => tendrilref03_Field_P14 k vs bs | false => none
noncomputable def tendrilref03_Field_C : List (Cut (Tup [⟨false, .int⟩, ⟨false, .int⟩])) := cuts Try.prog (lkΓ [(15, tendrilref03_Cap_S), (25, tendrilref03_Check_S)]) Try.f38.ntmps [(14, [1, 2, 3, 4, 11, 12, 13])] (bodyOf Try.f38) (κ0 Try.prog Try.f38 false [⟨false, .int⟩, ⟨false, .int⟩])
set_option maxRecDepth 5000000 in
theorem tendrilref03_Field_c14 (k : Nat) (p0 : Int) (p1 : Int) (p2 : Int) (p3 : Int) (p4 : Int) (p5 : Int) (p6 : Int) (p7 : Int) (p8 : Int) (p9 : Int) (p10 : Int) : ((nthC tendrilref03_Field_C 0).g (mkSt [1, 2, 3, 4, 11, 12, 13] [.val (.one (.int .i64 p0)), .val (.one (.int .i64 p1)), .val (.one (.int .i64 p2)), .val (.one (.ptr 0 0)), .val (.one (.int .i64 p3)), .val (.one (.int .i64 p4)), .val (.one (.int .i64 p5))] [.box [(.int .i64 p6), (.int .i64 p7), (.int .i64 p8), (.int .i64 p9), (.int .i64 p10)]])).run (tendrilref03_Field_Λ k) = tendrilref03_Field_L14 (k + 1) p0 p1 p2 p3 p4 p5 p6 p7 p8 p9 p10 := by kernel_rfl
set_option maxHeartbeats 0 in
set_option maxRecDepth 5000000 in
theorem tendrilref03_Field_e14 (k : Nat) (vs : List SV) (bs : List Blk) (r : Int × Int) (h : tendrilref03_Field_P14v0 (k + 1) vs bs = some (some r)) : ((nthC tendrilref03_Field_C 0).g (mkSt [1, 2, 3, 4, 11, 12, 13] vs bs)).run (tendrilref03_Field_Λ k) = some r := by
  unfold tendrilref03_Field_P14v0 at h
  split at h
  · exact (tendrilref03_Field_c14 k _ _ _ _ _ _ _ _ _ _ _).trans (Option.some.inj h)
  · cases h
theorem tendrilref03_Field_d14 : CutOk tendrilref03_Field_Λ (nthC tendrilref03_Field_C 0) := by
  refine cutOk_of (L := 14) (live := [1, 2, 3, 4, 11, 12, 13]) (by kernel_rfl) (by kernel_rfl) fun k vs bs r h => ?_
  change tendrilref03_Field_P14 (k + 1) vs bs = some r at h
  unfold tendrilref03_Field_P14 at h
  split at h
  · rename_i q hq
    exact tendrilref03_Field_e14 k vs bs r (hq.trans (congrArg some h))
  cases h
theorem tendrilref03_Field_cuts : ∀ p ∈ cuts Try.prog (lkΓ [(15, tendrilref03_Cap_S), (25, tendrilref03_Check_S)]) Try.f38.ntmps [(14, [1, 2, 3, 4, 11, 12, 13])] (bodyOf Try.f38) (κ0 Try.prog Try.f38 false [⟨false, .int⟩, ⟨false, .int⟩]), CutOk tendrilref03_Field_Λ p := cutsOk (l := tendrilref03_Field_C) (n := 1) (by kernel_rfl) fun
  | 0, _ => tendrilref03_Field_d14
  | k + 1, h => absurd h (by omega)
set_option maxHeartbeats 0 in
set_option maxRecDepth 5000000 in
theorem tendrilref03_Field_z14 (vs : List SV) (bs : List Blk) (q : Option (Int × Int)) (h : tendrilref03_Field_P14v0 0 vs bs = some q) : q = none := by
  unfold tendrilref03_Field_P14v0 at h; split at h
  · have h := Option.some.inj h; rw [← h]; first | rfl | (unfold tendrilref03_Field_L14; rfl)
  · cases h
theorem tendrilref03_Field_Λ0 (L : Nat) (vs : List SV) (bs : List Blk) : tendrilref03_Field_Λ 0 L vs bs = none := by
  unfold tendrilref03_Field_Λ
  split
  · unfold tendrilref03_Field_P14
    split
    · rename_i q hq; exact tendrilref03_Field_z14 _ _ q hq
    rfl
  rfl
set_option maxRecDepth 5000000 in
theorem tendrilref03_Field_run (K : Nat) (x : Tup [⟨true, (.pair .int (.pair .int (.pair .int (.pair .int .int))))⟩, ⟨false, .int⟩, ⟨false, .int⟩, ⟨false, .int⟩]) : (pxFn Try.prog (lkΓ [(15, tendrilref03_Cap_S), (25, tendrilref03_Check_S)]) [(14, [1, 2, 3, 4, 11, 12, 13])] Try.f38 (bodyOf Try.f38) false [⟨false, .int⟩, ⟨false, .int⟩] (encTup [⟨true, (.pair .int (.pair .int (.pair .int (.pair .int .int))))⟩, ⟨false, .int⟩, ⟨false, .int⟩, ⟨false, .int⟩] x)).run (tendrilref03_Field_Λ K) = tendrilref03_Field_K K x := by kernel_rfl
set_option maxRecDepth 5000000 in
theorem tendrillaw14_ChainOut_run (x : Tup [⟨true, (.pair .int (.pair .int (.pair .int (.pair .int .int))))⟩, ⟨false, (.sl .int)⟩, ⟨false, .int⟩, ⟨false, .int⟩, ⟨false, .int⟩, ⟨false, .int⟩]) : (pxFn Try.prog (lkΓ [(8, tendrillaw14_live_S), (9, tendrillaw14_few_S), (10, chain_Follow_S), (14, tendrilref02_Same_S), (17, place_Node_S), (18, place_Size_S), (20, chain_Unlink_S), (flagK, flagS)]) [] Try.f7 (bodyOf Try.f7) false [⟨false, .bool⟩] (encTup [⟨true, (.pair .int (.pair .int (.pair .int (.pair .int .int))))⟩, ⟨false, (.sl .int)⟩, ⟨false, .int⟩, ⟨false, .int⟩, ⟨false, .int⟩, ⟨false, .int⟩] x)).run (fun _ _ _ => none) = tendrillaw14_ChainOut x := by kernel_rfl
theorem tendrillaw14_ChainOut_cuts : ∀ p ∈ cuts Try.prog (lkΓ [(8, tendrillaw14_live_S), (9, tendrillaw14_few_S), (10, chain_Follow_S), (14, tendrilref02_Same_S), (17, place_Node_S), (18, place_Size_S), (20, chain_Unlink_S), (flagK, flagS)]) Try.f7.ntmps [] (bodyOf Try.f7) (κ0 Try.prog Try.f7 false [⟨false, .bool⟩]), CutOk (fun _ _ _ _ => none) p := cutsNil (by kernel_rfl)
set_option maxRecDepth 5000000 in
theorem place_New_run (x : Tup [⟨true, (.pair .int (.pair .int (.pair .int (.pair .int .int))))⟩]) : (pxFn Try.prog (lkΓ [(18, place_Size_S), (23, place_Check_S), (33, mem_New_S)]) [] Try.f21 (bodyOf Try.f21) true [⟨false, (.sl .int)⟩, ⟨false, .int⟩] (encTup [⟨true, (.pair .int (.pair .int (.pair .int (.pair .int .int))))⟩] x)).run (fun _ _ _ => none) = place_New x := by kernel_rfl
theorem place_New_cuts : ∀ p ∈ cuts Try.prog (lkΓ [(18, place_Size_S), (23, place_Check_S), (33, mem_New_S)]) Try.f21.ntmps [] (bodyOf Try.f21) (κ0 Try.prog Try.f21 true [⟨false, (.sl .int)⟩, ⟨false, .int⟩]), CutOk (fun _ _ _ _ => none) p := cutsNil (by kernel_rfl)
set_option maxRecDepth 5000000 in
theorem tendrilref01_Unpack_run (x : Tup [⟨false, .int⟩]) : (pxFn Try.prog (lkΓ []) [] Try.f27 (bodyOf Try.f27) false [⟨false, .int⟩, ⟨false, .int⟩, ⟨false, .int⟩] (encTup [⟨false, .int⟩] x)).run (fun _ _ _ => none) = tendrilref01_Unpack x := by kernel_rfl
theorem tendrilref01_Unpack_cuts : ∀ p ∈ cuts Try.prog (lkΓ []) Try.f27.ntmps [] (bodyOf Try.f27) (κ0 Try.prog Try.f27 false [⟨false, .int⟩, ⟨false, .int⟩, ⟨false, .int⟩]), CutOk (fun _ _ _ _ => none) p := cutsNil (by kernel_rfl)
end Go.Proofs.YthnbleblmpnfhaaFn
