/- What the interpreter of code computes of these functions, part 3; no condition. -/
import Derived.Test.YthnbleblmpnfhaaProg
import Derived.KernelRfl
import Derived.Test.YthnbleblmpnfhaaPx25
import Derived.Test.YthnbleblmpnfhaaFolD
import Derived.Test.YthnbleblmpnfhaaFnsD
set_option linter.unusedVariables false
set_option linter.unusedSimpArgs false
namespace Go.Proofs.YthnbleblmpnfhaaFn
open Go Go.RowKit Go.Proofs.YthnbleblmpnfhaaPx
set_option maxHeartbeats 0 in
set_option maxRecDepth 5000000 in
def tendrillaw14_ChainRing_P26v0 (k : Nat) (vs : List SV) (bs : List Blk) : Option (Option (Bool)) := match vs, bs with
  | [.val (.one (.sl .int p0)), .val (.one (.int .i64 p1)), .val (.one (.int .i64 p2)), .val (.one (.int .i64 p3)), .val (.one (.ptr 0 0)), .val (.one (.row 1)), .val (.one (.row 1)), .val (.one (.int .i64 p4)), .val (.one (.int .i64 p5))], [.box [(.int .i64 p6), (.int .i64 p7), (.int .i64 p8), (.int .i64 p9), (.int .i64 p10)], .row .int p11] => some (tendrillaw14_ChainRing_L26 k p0 p1 p2 p3 p4 p5 p6 p7 p8 p9 p10 p11)
  | _, _ => none
def tendrillaw14_ChainRing_P26 (k : Nat) (vs : List SV) (bs : List Blk) : Option (Bool) := match tendrillaw14_ChainRing_P26v0 k vs bs with | some r => r | none => none
def tendrillaw14_ChainRing_Λ (k L : Nat) (vs : List SV) (bs : List Blk) : Option (Bool) := match Nat.beq L 26 with | true => tendrillaw14_ChainRing_P26 k vs bs | false => none
noncomputable def tendrillaw14_ChainRing_C : List (Cut (Tup [⟨false, .bool⟩])) := cuts Try.prog (lkΓ [(8, tendrillaw14_live_S), (9, tendrillaw14_few_S), (10, chain_Follow_S), (12, chain_Field_S), (15, tendrilref03_Cap_S), (16, chain_Put_S)]) Try.f4.ntmps [(26, [1, 2, 3, 4, 5, 11, 72, 73, 74])] (bodyOf Try.f4) (κ0 Try.prog Try.f4 false [⟨false, .bool⟩])
set_option maxRecDepth 5000000 in
theorem tendrillaw14_ChainRing_c26 (k : Nat) (p0 : List Int) (p1 : Int) (p2 : Int) (p3 : Int) (p4 : Int) (p5 : Int) (p6 : Int) (p7 : Int) (p8 : Int) (p9 : Int) (p10 : Int) (p11 : List Int) : ((nthC tendrillaw14_ChainRing_C 0).g (mkSt [1, 2, 3, 4, 5, 11, 72, 73, 74] [.val (.one (.sl .int p0)), .val (.one (.int .i64 p1)), .val (.one (.int .i64 p2)), .val (.one (.int .i64 p3)), .val (.one (.ptr 0 0)), .val (.one (.row 1)), .val (.one (.row 1)), .val (.one (.int .i64 p4)), .val (.one (.int .i64 p5))] [.box [(.int .i64 p6), (.int .i64 p7), (.int .i64 p8), (.int .i64 p9), (.int .i64 p10)], .row .int p11])).run (tendrillaw14_ChainRing_Λ k) = tendrillaw14_ChainRing_L26 (k + 1) p0 p1 p2 p3 p4 p5 p6 p7 p8 p9 p10 p11 := by kernel_rfl
set_option maxHeartbeats 0 in
set_option maxRecDepth 5000000 in
theorem tendrillaw14_ChainRing_e26 (k : Nat) (vs : List SV) (bs : List Blk) (r : Bool) (h : tendrillaw14_ChainRing_P26v0 (k + 1) vs bs = some (some r)) : ((nthC tendrillaw14_ChainRing_C 0).g (mkSt [1, 2, 3, 4, 5, 11, 72, 73, 74] vs bs)).run (tendrillaw14_ChainRing_Λ k) = some r := by
  unfold tendrillaw14_ChainRing_P26v0 at h
  split at h
  · exact (tendrillaw14_ChainRing_c26 k _ _ _ _ _ _ _ _ _ _ _ _).trans (Option.some.inj h)
  · cases h
theorem tendrillaw14_ChainRing_d26 : CutOk tendrillaw14_ChainRing_Λ (nthC tendrillaw14_ChainRing_C 0) := by
  refine cutOk_of (L := 26) (live := [1, 2, 3, 4, 5, 11, 72, 73, 74]) (by kernel_rfl) (by kernel_rfl) fun k vs bs r h => ?_
  change tendrillaw14_ChainRing_P26 (k + 1) vs bs = some r at h
  unfold tendrillaw14_ChainRing_P26 at h
  split at h
  · rename_i q hq
    exact tendrillaw14_ChainRing_e26 k vs bs r (hq.trans (congrArg some h))
  cases h
theorem tendrillaw14_ChainRing_cuts : ∀ p ∈ cuts Try.prog (lkΓ [(8, tendrillaw14_live_S), (9, tendrillaw14_few_S), (10, chain_Follow_S), (12, chain_Field_S), (15, tendrilref03_Cap_S), (16, chain_Put_S)]) Try.f4.ntmps [(26, [1, 2, 3, 4, 5, 11, 72, 73, 74])] (bodyOf Try.f4) (κ0 Try.prog Try.f4 false [⟨false, .bool⟩]), CutOk tendrillaw14_ChainRing_Λ p := cutsOk (l := tendrillaw14_ChainRing_C) (n := 1) (by kernel_rfl) fun
  | 0, _ => tendrillaw14_ChainRing_d26
  | k + 1, h => absurd h (by omega)
set_option maxHeartbeats 0 in
set_option maxRecDepth 5000000 in
theorem tendrillaw14_ChainRing_z26 (vs : List SV) (bs : List Blk) (q : Option (Bool)) (h : tendrillaw14_ChainRing_P26v0 0 vs bs = some q) : q = none := by
  unfold tendrillaw14_ChainRing_P26v0 at h; split at h
  · have h := Option.some.inj h; rw [← h]; first | rfl | (unfold tendrillaw14_ChainRing_L26; rfl)
  · cases h
theorem tendrillaw14_ChainRing_Λ0 (L : Nat) (vs : List SV) (bs : List Blk) : tendrillaw14_ChainRing_Λ 0 L vs bs = none := by
  unfold tendrillaw14_ChainRing_Λ
  split
  · unfold tendrillaw14_ChainRing_P26
    split
    · rename_i q hq; exact tendrillaw14_ChainRing_z26 _ _ q hq
    rfl
  rfl
set_option maxRecDepth 5000000 in
theorem tendrillaw14_ChainRing_run (K : Nat) (x : Tup [⟨true, (.pair .int (.pair .int (.pair .int (.pair .int .int))))⟩, ⟨false, (.sl .int)⟩, ⟨false, .int⟩, ⟨false, .int⟩, ⟨false, .int⟩]) : (pxFn Try.prog (lkΓ [(8, tendrillaw14_live_S), (9, tendrillaw14_few_S), (10, chain_Follow_S), (12, chain_Field_S), (15, tendrilref03_Cap_S), (16, chain_Put_S)]) [(26, [1, 2, 3, 4, 5, 11, 72, 73, 74])] Try.f4 (bodyOf Try.f4) false [⟨false, .bool⟩] (encTup [⟨true, (.pair .int (.pair .int (.pair .int (.pair .int .int))))⟩, ⟨false, (.sl .int)⟩, ⟨false, .int⟩, ⟨false, .int⟩, ⟨false, .int⟩] x)).run (tendrillaw14_ChainRing_Λ K) = tendrillaw14_ChainRing_K K x := by kernel_rfl
set_option maxRecDepth 5000000 in
theorem tendrilref14_at_run (x : Tup [⟨true, (.pair .int (.pair .int (.pair .int (.pair .int .int))))⟩, ⟨false, (.sl .int)⟩, ⟨false, .int⟩, ⟨false, .int⟩, ⟨false, .int⟩]) : (pxFn Try.prog (lkΓ [(25, tendrilref03_Check_S), (26, tendrilref03_Size_S), (27, tendrilref01_Unpack_S), (38, tendrilref03_Field_S)]) [] Try.f30 (bodyOf Try.f30) false [⟨false, .int⟩, ⟨false, .int⟩] (encTup [⟨true, (.pair .int (.pair .int (.pair .int (.pair .int .int))))⟩, ⟨false, (.sl .int)⟩, ⟨false, .int⟩, ⟨false, .int⟩, ⟨false, .int⟩] x)).run (fun _ _ _ => none) = tendrilref14_at x := by kernel_rfl
theorem tendrilref14_at_cuts : ∀ p ∈ cuts Try.prog (lkΓ [(25, tendrilref03_Check_S), (26, tendrilref03_Size_S), (27, tendrilref01_Unpack_S), (38, tendrilref03_Field_S)]) Try.f30.ntmps [] (bodyOf Try.f30) (κ0 Try.prog Try.f30 false [⟨false, .int⟩, ⟨false, .int⟩]), CutOk (fun _ _ _ _ => none) p := cutsNil (by kernel_rfl)
set_option maxRecDepth 5000000 in
theorem place_Node_run (x : Tup [⟨true, (.pair .int (.pair .int (.pair .int (.pair .int .int))))⟩, ⟨false, .int⟩]) : (pxFn Try.prog (lkΓ [(23, place_Check_S)]) [] Try.f17 (bodyOf Try.f17) false [⟨false, .int⟩, ⟨false, .int⟩] (encTup [⟨true, (.pair .int (.pair .int (.pair .int (.pair .int .int))))⟩, ⟨false, .int⟩] x)).run (fun _ _ _ => none) = place_Node x := by kernel_rfl
theorem place_Node_cuts : ∀ p ∈ cuts Try.prog (lkΓ [(23, place_Check_S)]) Try.f17.ntmps [] (bodyOf Try.f17) (κ0 Try.prog Try.f17 false [⟨false, .int⟩, ⟨false, .int⟩]), CutOk (fun _ _ _ _ => none) p := cutsNil (by kernel_rfl)
set_option maxRecDepth 5000000 in
theorem tendrillaw14_few_run (x : Tup [⟨false, (.sl .int)⟩]) : (pxFn Try.prog (lkΓ []) [] Try.f9 (bodyOf Try.f9) false [⟨false, .bool⟩] (encTup [⟨false, (.sl .int)⟩] x)).run (fun _ _ _ => none) = tendrillaw14_few x := by kernel_rfl
theorem tendrillaw14_few_cuts : ∀ p ∈ cuts Try.prog (lkΓ []) Try.f9.ntmps [] (bodyOf Try.f9) (κ0 Try.prog Try.f9 false [⟨false, .bool⟩]), CutOk (fun _ _ _ _ => none) p := cutsNil (by kernel_rfl)
end Go.Proofs.YthnbleblmpnfhaaFn
