/- What the interpreter of code computes of these functions, part 1; no condition. -/
import Derived.Test.YthnbleblmpnfhaaProg
import Derived.KernelRfl
import Derived.Test.YthnbleblmpnfhaaPx25
import Derived.Test.YthnbleblmpnfhaaFolD
import Derived.Test.YthnbleblmpnfhaaFnsD
set_option linter.unusedVariables false
set_option linter.unusedSimpArgs false
namespace Go.Proofs.YthnbleblmpnfhaaFn
open Go Go.RowKit Go.Proofs.YthnbleblmpnfhaaPx
set_option maxHeartbeats 0 in
set_option maxRecDepth 5000000 in
def tendrillaw14_ChainBack_P22v0 (k : Nat) (vs : List SV) (bs : List Blk) : Option (Option (Bool)) := match vs, bs with
  | [.val (.one (.sl .int p0)), .val (.one (.int .i64 p1)), .val (.one (.int .i64 p2)), .val (.one (.int .i64 p3)), .val (.one (.ptr 0 0)), .val (.one (.int .i64 p4)), .val (.one (.row 1)), .val (.one (.row 1)), .val (.one (.int .i64 p5)), .val (.one (.int .i64 p6))], [.box [(.int .i64 p7), (.int .i64 p8), (.int .i64 p9), (.int .i64 p10), (.int .i64 p11)], .row .int p12] => some (tendrillaw14_ChainBack_L22 k p0 p1 p2 p3 p4 p5 p6 p7 p8 p9 p10 p11 p12)
  | _, _ => none
def tendrillaw14_ChainBack_P22 (k : Nat) (vs : List SV) (bs : List Blk) : Option (Bool) := match tendrillaw14_ChainBack_P22v0 k vs bs with | some r => r | none => none
def tendrillaw14_ChainBack_Λ (k L : Nat) (vs : List SV) (bs : List Blk) : Option (Bool) := match Nat.beq L 22 with | true => tendrillaw14_ChainBack_P22 k vs bs | false => none
noncomputable def tendrillaw14_ChainBack_C : List (Cut (Tup [⟨false, .bool⟩])) := cuts Try.prog (lkΓ [(8, tendrillaw14_live_S), (9, tendrillaw14_few_S), (10, chain_Follow_S), (14, tendrilref02_Same_S), (17, place_Node_S), (18, place_Size_S), (19, chain_Push_S), (20, chain_Unlink_S), (flagK, flagL)]) Try.f6.ntmps [(22, [1, 3, 4, 5, 6, 13, 15, 63, 64, 65])] (bodyOf Try.f6) (κ0 Try.prog Try.f6 false [⟨false, .bool⟩])
set_option maxRecDepth 5000000 in
theorem tendrillaw14_ChainBack_c22 (k : Nat) (p0 : List Int) (p1 : Int) (p2 : Int) (p3 : Int) (p4 : Int) (p5 : Int) (p6 : Int) (p7 : Int) (p8 : Int) (p9 : Int) (p10 : Int) (p11 : Int) (p12 : List Int) : ((nthC tendrillaw14_ChainBack_C 0).g (mkSt [1, 3, 4, 5, 6, 13, 15, 63, 64, 65] [.val (.one (.sl .int p0)), .val (.one (.int .i64 p1)), .val (.one (.int .i64 p2)), .val (.one (.int .i64 p3)), .val (.one (.ptr 0 0)), .val (.one (.int .i64 p4)), .val (.one (.row 1)), .val (.one (.row 1)), .val (.one (.int .i64 p5)), .val (.one (.int .i64 p6))] [.box [(.int .i64 p7), (.int .i64 p8), (.int .i64 p9), (.int .i64 p10), (.int .i64 p11)], .row .int p12])).run (tendrillaw14_ChainBack_Λ k) = tendrillaw14_ChainBack_L22 (k + 1) p0 p1 p2 p3 p4 p5 p6 p7 p8 p9 p10 p11 p12 := by kernel_rfl
set_option maxHeartbeats 0 in
set_option maxRecDepth 5000000 in
theorem tendrillaw14_ChainBack_e22 (k : Nat) (vs : List SV) (bs : List Blk) (r : Bool) (h : tendrillaw14_ChainBack_P22v0 (k + 1) vs bs = some (some r)) : ((nthC tendrillaw14_ChainBack_C 0).g (mkSt [1, 3, 4, 5, 6, 13, 15, 63, 64, 65] vs bs)).run (tendrillaw14_ChainBack_Λ k) = some r := by
  unfold tendrillaw14_ChainBack_P22v0 at h
  split at h
  · exact (tendrillaw14_ChainBack_c22 k _ _ _ _ _ _ _ _ _ _ _ _ _).trans (Option.some.inj h)
  · cases h
theorem tendrillaw14_ChainBack_d22 : CutOk tendrillaw14_ChainBack_Λ (nthC tendrillaw14_ChainBack_C 0) := by
  refine cutOk_of (L := 22) (live := [1, 3, 4, 5, 6, 13, 15, 63, 64, 65]) (by kernel_rfl) (by kernel_rfl) fun k vs bs r h => ?_
  change tendrillaw14_ChainBack_P22 (k + 1) vs bs = some r at h
  unfold tendrillaw14_ChainBack_P22 at h
  split at h
  · rename_i q hq
    exact tendrillaw14_ChainBack_e22 k vs bs r (hq.trans (congrArg some h))
  cases h
theorem tendrillaw14_ChainBack_cuts : ∀ p ∈ cuts Try.prog (lkΓ [(8, tendrillaw14_live_S), (9, tendrillaw14_few_S), (10, chain_Follow_S), (14, tendrilref02_Same_S), (17, place_Node_S), (18, place_Size_S), (19, chain_Push_S), (20, chain_Unlink_S), (flagK, flagL)]) Try.f6.ntmps [(22, [1, 3, 4, 5, 6, 13, 15, 63, 64, 65])] (bodyOf Try.f6) (κ0 Try.prog Try.f6 false [⟨false, .bool⟩]), CutOk tendrillaw14_ChainBack_Λ p := cutsOk (l := tendrillaw14_ChainBack_C) (n := 1) (by kernel_rfl) fun
  | 0, _ => tendrillaw14_ChainBack_d22
  | k + 1, h => absurd h (by omega)
set_option maxHeartbeats 0 in
set_option maxRecDepth 5000000 in
theorem tendrillaw14_ChainBack_z22 (vs : List SV) (bs : List Blk) (q : Option (Bool)) (h : tendrillaw14_ChainBack_P22v0 0 vs bs = some q) : q = none := by
  unfold tendrillaw14_ChainBack_P22v0 at h; split at h
  · have h := Option.some.inj h; rw [← h]; first | rfl | (unfold tendrillaw14_ChainBack_L22; rfl)
  · cases h
theorem tendrillaw14_ChainBack_Λ0 (L : Nat) (vs : List SV) (bs : List Blk) : tendrillaw14_ChainBack_Λ 0 L vs bs = none := by
  unfold tendrillaw14_ChainBack_Λ
  split
  · unfold tendrillaw14_ChainBack_P22
    split
    · rename_i q hq; exact tendrillaw14_ChainBack_z22 _ _ q hq
    rfl
  rfl
set_option maxRecDepth 5000000 in
theorem tendrillaw14_ChainBack_run (K : Nat) (x : Tup [⟨true, (.pair .int (.pair .int (.pair .int (.pair .int .int))))⟩, ⟨false, (.sl .int)⟩, ⟨false, .int⟩, ⟨false, .int⟩, ⟨false, .int⟩, ⟨false, .int⟩]) : (pxFn Try.prog (lkΓ [(8, tendrillaw14_live_S), (9, tendrillaw14_few_S), (10, chain_Follow_S), (14, tendrilref02_Same_S), (17, place_Node_S), (18, place_Size_S), (19, chain_Push_S), (20, chain_Unlink_S), (flagK, flagL)]) [(22, [1, 3, 4, 5, 6, 13, 15, 63, 64, 65])] Try.f6 (bodyOf Try.f6) false [⟨false, .bool⟩] (encTup [⟨true, (.pair .int (.pair .int (.pair .int (.pair .int .int))))⟩, ⟨false, (.sl .int)⟩, ⟨false, .int⟩, ⟨false, .int⟩, ⟨false, .int⟩, ⟨false, .int⟩] x)).run (tendrillaw14_ChainBack_Λ K) = tendrillaw14_ChainBack_K K x := by kernel_rfl
set_option maxRecDepth 5000000 in
theorem chain_Put_run (x : Tup [⟨true, (.pair .int (.pair .int (.pair .int (.pair .int .int))))⟩, ⟨false, (.sl .int)⟩, ⟨false, .int⟩, ⟨false, .int⟩, ⟨false, .int⟩, ⟨false, .int⟩]) : (pxFn Try.prog (lkΓ [(28, chain_where_S), (31, mem_Store_S)]) [] Try.f16 (bodyOf Try.f16) true [⟨false, (.sl .int)⟩, ⟨false, .int⟩] (encTup [⟨true, (.pair .int (.pair .int (.pair .int (.pair .int .int))))⟩, ⟨false, (.sl .int)⟩, ⟨false, .int⟩, ⟨false, .int⟩, ⟨false, .int⟩, ⟨false, .int⟩] x)).run (fun _ _ _ => none) = chain_Put x := by kernel_rfl
theorem chain_Put_cuts : ∀ p ∈ cuts Try.prog (lkΓ [(28, chain_where_S), (31, mem_Store_S)]) Try.f16.ntmps [] (bodyOf Try.f16) (κ0 Try.prog Try.f16 true [⟨false, (.sl .int)⟩, ⟨false, .int⟩]), CutOk (fun _ _ _ _ => none) p := cutsNil (by kernel_rfl)
set_option maxRecDepth 5000000 in
theorem tendrilref03_Cap_run (x : Tup [⟨true, (.pair .int (.pair .int (.pair .int (.pair .int .int))))⟩, ⟨false, .int⟩]) : (pxFn Try.prog (lkΓ []) [] Try.f15 (bodyOf Try.f15) false [⟨false, .int⟩, ⟨false, .int⟩] (encTup [⟨true, (.pair .int (.pair .int (.pair .int (.pair .int .int))))⟩, ⟨false, .int⟩] x)).run (fun _ _ _ => none) = tendrilref03_Cap x := by kernel_rfl
theorem tendrilref03_Cap_cuts : ∀ p ∈ cuts Try.prog (lkΓ []) Try.f15.ntmps [] (bodyOf Try.f15) (κ0 Try.prog Try.f15 false [⟨false, .int⟩, ⟨false, .int⟩]), CutOk (fun _ _ _ _ => none) p := cutsNil (by kernel_rfl)
end Go.Proofs.YthnbleblmpnfhaaFn
