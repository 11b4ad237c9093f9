/- What the interpreter of code computes of these functions, part 2; no condition. -/
import Derived.Test.YthnbleblmpnfhaaProg
import Derived.KernelRfl
import Derived.Test.YthnbleblmpnfhaaPx25
import Derived.Test.YthnbleblmpnfhaaFolD
import Derived.Test.YthnbleblmpnfhaaFnsD
set_option linter.unusedVariables false
set_option linter.unusedSimpArgs false
namespace Go.Proofs.YthnbleblmpnfhaaFn
open Go Go.RowKit Go.Proofs.YthnbleblmpnfhaaPx
set_option maxHeartbeats 0 in
set_option maxRecDepth 5000000 in
def tendrillaw14_ChainPuts_P30v0 (k : Nat) (vs : List SV) (bs : List Blk) : Option (Option (Bool)) := match vs, bs with
  | [.val (.one (.sl .int p0)), .val (.one (.int .i64 p1)), .val (.one (.int .i64 p2)), .val (.one (.int .i64 p3)), .val (.one (.int .i64 p4)), .val (.one (.ptr 0 0)), .val (.one (.row 1)), .val (.one (.int .i64 p5)), .val (.one (.int .i64 p6)), .val (.one (.int .i64 p7))], [.box [(.int .i64 p8), (.int .i64 p9), (.int .i64 p10), (.int .i64 p11), (.int .i64 p12)], .row .int p13] => some (tendrillaw14_ChainPuts_L30 k p0 p1 p2 p3 p4 p5 p6 p7 p8 p9 p10 p11 p12 p13)
  | _, _ => none
def tendrillaw14_ChainPuts_P30 (k : Nat) (vs : List SV) (bs : List Blk) : Option (Bool) := match tendrillaw14_ChainPuts_P30v0 k vs bs with | some r => r | none => none
def tendrillaw14_ChainPuts_Λ (k L : Nat) (vs : List SV) (bs : List Blk) : Option (Bool) := match Nat.beq L 30 with | true => tendrillaw14_ChainPuts_P30 k vs bs | false => none
noncomputable def tendrillaw14_ChainPuts_C : List (Cut (Tup [⟨false, .bool⟩])) := cuts Try.prog (lkΓ [(8, tendrillaw14_live_S), (9, tendrillaw14_few_S), (12, chain_Field_S), (16, chain_Put_S)]) Try.f5.ntmps [(30, [1, 2, 3, 4, 5, 6, 13, 19, 81, 82])] (bodyOf Try.f5) (κ0 Try.prog Try.f5 false [⟨false, .bool⟩])
set_option maxRecDepth 5000000 in
theorem tendrillaw14_ChainPuts_c30 (k : Nat) (p0 : List Int) (p1 : Int) (p2 : Int) (p3 : Int) (p4 : Int) (p5 : Int) (p6 : Int) (p7 : Int) (p8 : Int) (p9 : Int) (p10 : Int) (p11 : Int) (p12 : Int) (p13 : List Int) : ((nthC tendrillaw14_ChainPuts_C 0).g (mkSt [1, 2, 3, 4, 5, 6, 13, 19, 81, 82] [.val (.one (.sl .int p0)), .val (.one (.int .i64 p1)), .val (.one (.int .i64 p2)), .val (.one (.int .i64 p3)), .val (.one (.int .i64 p4)), .val (.one (.ptr 0 0)), .val (.one (.row 1)), .val (.one (.int .i64 p5)), .val (.one (.int .i64 p6)), .val (.one (.int .i64 p7))] [.box [(.int .i64 p8), (.int .i64 p9), (.int .i64 p10), (.int .i64 p11), (.int .i64 p12)], .row .int p13])).run (tendrillaw14_ChainPuts_Λ k) = tendrillaw14_ChainPuts_L30 (k + 1) p0 p1 p2 p3 p4 p5 p6 p7 p8 p9 p10 p11 p12 p13 := by kernel_rfl
set_option maxHeartbeats 0 in
set_option maxRecDepth 5000000 in
theorem tendrillaw14_ChainPuts_e30 (k : Nat) (vs : List SV) (bs : List Blk) (r : Bool) (h : tendrillaw14_ChainPuts_P30v0 (k + 1) vs bs = some (some r)) : ((nthC tendrillaw14_ChainPuts_C 0).g (mkSt [1, 2, 3, 4, 5, 6, 13, 19, 81, 82] vs bs)).run (tendrillaw14_ChainPuts_Λ k) = some r := by
  unfold tendrillaw14_ChainPuts_P30v0 at h
  split at h
  · exact (tendrillaw14_ChainPuts_c30 k _ _ _ _ _ _ _ _ _ _ _ _ _ _).trans (Option.some.inj h)
  · cases h
theorem tendrillaw14_ChainPuts_d30 : CutOk tendrillaw14_ChainPuts_Λ (nthC tendrillaw14_ChainPuts_C 0) := by
  refine cutOk_of (L := 30) (live := [1, 2, 3, 4, 5, 6, 13, 19, 81, 82]) (by kernel_rfl) (by kernel_rfl) fun k vs bs r h => ?_
  change tendrillaw14_ChainPuts_P30 (k + 1) vs bs = some r at h
  unfold tendrillaw14_ChainPuts_P30 at h
  split at h
  · rename_i q hq
    exact tendrillaw14_ChainPuts_e30 k vs bs r (hq.trans (congrArg some h))
  cases h
theorem tendrillaw14_ChainPuts_cuts : ∀ p ∈ cuts Try.prog (lkΓ [(8, tendrillaw14_live_S), (9, tendrillaw14_few_S), (12, chain_Field_S), (16, chain_Put_S)]) Try.f5.ntmps [(30, [1, 2, 3, 4, 5, 6, 13, 19, 81, 82])] (bodyOf Try.f5) (κ0 Try.prog Try.f5 false [⟨false, .bool⟩]), CutOk tendrillaw14_ChainPuts_Λ p := cutsOk (l := tendrillaw14_ChainPuts_C) (n := 1) (by kernel_rfl) fun
  | 0, _ => tendrillaw14_ChainPuts_d30
  | k + 1, h => absurd h (by omega)
set_option maxHeartbeats 0 in
set_option maxRecDepth 5000000 in
theorem tendrillaw14_ChainPuts_z30 (vs : List SV) (bs : List Blk) (q : Option (Bool)) (h : tendrillaw14_ChainPuts_P30v0 0 vs bs = some q) : q = none := by
  unfold tendrillaw14_ChainPuts_P30v0 at h; split at h
  · have h := Option.some.inj h; rw [← h]; first | rfl | (unfold tendrillaw14_ChainPuts_L30; rfl)
  · cases h
theorem tendrillaw14_ChainPuts_Λ0 (L : Nat) (vs : List SV) (bs : List Blk) : tendrillaw14_ChainPuts_Λ 0 L vs bs = none := by
  unfold tendrillaw14_ChainPuts_Λ
  split
  · unfold tendrillaw14_ChainPuts_P30
    split
    · rename_i q hq; exact tendrillaw14_ChainPuts_z30 _ _ q hq
    rfl
  rfl
set_option maxRecDepth 5000000 in
theorem tendrillaw14_ChainPuts_run (K : Nat) (x : Tup [⟨true, (.pair .int (.pair .int (.pair .int (.pair .int .int))))⟩, ⟨false, (.sl .int)⟩, ⟨false, .int⟩, ⟨false, .int⟩, ⟨false, .int⟩, ⟨false, .int⟩]) : (pxFn Try.prog (lkΓ [(8, tendrillaw14_live_S), (9, tendrillaw14_few_S), (12, chain_Field_S), (16, chain_Put_S)]) [(30, [1, 2, 3, 4, 5, 6, 13, 19, 81, 82])] Try.f5 (bodyOf Try.f5) false [⟨false, .bool⟩] (encTup [⟨true, (.pair .int (.pair .int (.pair .int (.pair .int .int))))⟩, ⟨false, (.sl .int)⟩, ⟨false, .int⟩, ⟨false, .int⟩, ⟨false, .int⟩, ⟨false, .int⟩] x)).run (tendrillaw14_ChainPuts_Λ K) = tendrillaw14_ChainPuts_K K x := by kernel_rfl
set_option maxRecDepth 5000000 in
theorem chain_Push_run (x : Tup [⟨true, (.pair .int (.pair .int (.pair .int (.pair .int .int))))⟩, ⟨false, (.sl .int)⟩, ⟨false, .int⟩, ⟨false, .int⟩, ⟨false, .int⟩, ⟨false, .int⟩]) : (pxFn Try.prog (lkΓ [(16, chain_Put_S), (29, mem_Load_S), (31, mem_Store_S)]) [] Try.f19 (bodyOf Try.f19) true [⟨false, (.sl .int)⟩, ⟨false, .int⟩] (encTup [⟨true, (.pair .int (.pair .int (.pair .int (.pair .int .int))))⟩, ⟨false, (.sl .int)⟩, ⟨false, .int⟩, ⟨false, .int⟩, ⟨false, .int⟩, ⟨false, .int⟩] x)).run (fun _ _ _ => none) = chain_Push x := by kernel_rfl
theorem chain_Push_cuts : ∀ p ∈ cuts Try.prog (lkΓ [(16, chain_Put_S), (29, mem_Load_S), (31, mem_Store_S)]) Try.f19.ntmps [] (bodyOf Try.f19) (κ0 Try.prog Try.f19 true [⟨false, (.sl .int)⟩, ⟨false, .int⟩]), CutOk (fun _ _ _ _ => none) p := cutsNil (by kernel_rfl)
set_option maxRecDepth 5000000 in
theorem tendrillaw14_live_run (x : Tup []) : (pxFn Try.prog (lkΓ [(10, chain_Follow_S), (14, tendrilref02_Same_S), (19, chain_Push_S), (21, place_New_S), (22, tendrillaw14_plain_S)]) [] Try.f8 (bodyOf Try.f8) false [⟨false, .bool⟩] (encTup [] x)).run (fun _ _ _ => none) = tendrillaw14_live x := by kernel_rfl
theorem tendrillaw14_live_cuts : ∀ p ∈ cuts Try.prog (lkΓ [(10, chain_Follow_S), (14, tendrilref02_Same_S), (19, chain_Push_S), (21, place_New_S), (22, tendrillaw14_plain_S)]) Try.f8.ntmps [] (bodyOf Try.f8) (κ0 Try.prog Try.f8 false [⟨false, .bool⟩]), CutOk (fun _ _ _ _ => none) p := cutsNil (by kernel_rfl)
set_option maxRecDepth 5000000 in
theorem mem_New_run (x : Tup [⟨false, .int⟩]) : (pxFn Try.prog (lkΓ []) [] Try.f33 (bodyOf Try.f33) true [⟨false, (.sl .int)⟩, ⟨false, .int⟩] (encTup [⟨false, .int⟩] x)).run (fun _ _ _ => none) = mem_New x := by kernel_rfl
theorem mem_New_cuts : ∀ p ∈ cuts Try.prog (lkΓ []) Try.f33.ntmps [] (bodyOf Try.f33) (κ0 Try.prog Try.f33 true [⟨false, (.sl .int)⟩, ⟨false, .int⟩]), CutOk (fun _ _ _ _ => none) p := cutsNil (by kernel_rfl)
end Go.Proofs.YthnbleblmpnfhaaFn
