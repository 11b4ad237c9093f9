/- What the functions that this seat's laws reach compute, as plain functions, each with its contract; no condition. -/
import Derived.Test.YtfnkomlakgiicabProg
import Derived.KernelRfl
import Derived.Test.YtfnkomlakgiicabPx25
set_option linter.unusedVariables false
set_option linter.unusedSimpArgs false
namespace Go.Proofs.YtfnkomlakgiicabFn
open Go Go.RowKit Go.Proofs.YtfnkomlakgiicabPx

/-! tendril/latch.Check -/
def latch_Check (x : Int) : Option (Int) :=
  bif Decidable.decide (x < (0 : Int)) then
    some ((1 : Int))
  else
    bif Decidable.decide ((4611686018427387904 : Int) < x) then
      some ((1 : Int))
    else
      some ((0 : Int))
def latch_Check_S : Sig := ⟨[⟨false, .int⟩], [⟨false, .int⟩], false, latch_Check⟩
set_option maxRecDepth 100000 in
theorem latch_Check_run (x : Tup [⟨false, .int⟩]) : (pxFn Try.prog (lkΓ []) [] Try.f10 (bodyOf Try.f10) false [⟨false, .int⟩] (encTup [⟨false, .int⟩] x)).run (fun _ _ _ => none) = latch_Check x := by kernel_rfl
theorem latch_Check_cuts : ∀ p ∈ cuts Try.prog (lkΓ []) Try.f10.ntmps [] (bodyOf Try.f10) (κ0 Try.prog Try.f10 false [⟨false, .int⟩]), CutOk (fun _ _ _ _ => none) p := cutsNil (by kernel_rfl)
theorem latch_Check_ok : SigOk Try.prog 10 latch_Check_S ∧ Bodied Try.prog 10 :=
  ⟨fn_sound (s := latch_Check_S) (T := []) (Λ := fun _ _ _ _ => none) 0 Try.func10 (c := bodyOf Try.f10) (by kernel_rfl) (by kernel_rfl) lkΓ_nil (by decide +kernel) (by decide +kernel) (fun _ _ _ => rfl) latch_Check_cuts (fun x => latch_Check_run  x), bodied_of Try.func10 (by decide +kernel) (by decide +kernel)⟩

/-! tendril/latch.Held -/
def latch_Held (x : Int) : Option (Bool) :=
  (latch_Check (x)).bind fun r0 =>
  bif r0 == (0 : Int) then
    some (Go.bits Go.BinOp.and Go.IntKind.i64 x (1 : Int) != (0 : Int))
  else
    some (Bool.false)
def latch_Held_S : Sig := ⟨[⟨false, .int⟩], [⟨false, .bool⟩], false, latch_Held⟩
set_option maxRecDepth 100000 in
theorem latch_Held_run (x : Tup [⟨false, .int⟩]) : (pxFn Try.prog (lkΓ [(10, latch_Check_S)]) [] Try.f12 (bodyOf Try.f12) false [⟨false, .bool⟩] (encTup [⟨false, .int⟩] x)).run (fun _ _ _ => none) = latch_Held x := by kernel_rfl
theorem latch_Held_cuts : ∀ p ∈ cuts Try.prog (lkΓ [(10, latch_Check_S)]) Try.f12.ntmps [] (bodyOf Try.f12) (κ0 Try.prog Try.f12 false [⟨false, .bool⟩]), CutOk (fun _ _ _ _ => none) p := cutsNil (by kernel_rfl)
theorem latch_Held_ok : SigOk Try.prog 12 latch_Held_S ∧ Bodied Try.prog 12 :=
  ⟨fn_sound (s := latch_Held_S) (T := []) (Λ := fun _ _ _ _ => none) 0 Try.func12 (c := bodyOf Try.f12) (by kernel_rfl) (by kernel_rfl) (lkΓ_cons latch_Check_ok lkΓ_nil) (by decide +kernel) (by decide +kernel) (fun _ _ _ => rfl) latch_Held_cuts (fun x => latch_Held_run  x), bodied_of Try.func12 (by decide +kernel) (by decide +kernel)⟩

/-! tendril/latch.Version -/
def latch_Version (x : Int) : Option (Int) :=
  (latch_Check (x)).bind fun r0 =>
  bif r0 != (0 : Int) then
    some ((-1 : Int))
  else
    some (Int.fdiv x ((2 : Int) ^ Min.min (Int.toNat (1 : Int)) Go.IntKind.i64.bits))
def latch_Version_S : Sig := ⟨[⟨false, .int⟩], [⟨false, .int⟩], false, latch_Version⟩
set_option maxRecDepth 100000 in
theorem latch_Version_run (x : Tup [⟨false, .int⟩]) : (pxFn Try.prog (lkΓ [(10, latch_Check_S)]) [] Try.f14 (bodyOf Try.f14) false [⟨false, .int⟩] (encTup [⟨false, .int⟩] x)).run (fun _ _ _ => none) = latch_Version x := by kernel_rfl
theorem latch_Version_cuts : ∀ p ∈ cuts Try.prog (lkΓ [(10, latch_Check_S)]) Try.f14.ntmps [] (bodyOf Try.f14) (κ0 Try.prog Try.f14 false [⟨false, .int⟩]), CutOk (fun _ _ _ _ => none) p := cutsNil (by kernel_rfl)
theorem latch_Version_ok : SigOk Try.prog 14 latch_Version_S ∧ Bodied Try.prog 14 :=
  ⟨fn_sound (s := latch_Version_S) (T := []) (Λ := fun _ _ _ _ => none) 0 Try.func14 (c := bodyOf Try.f14) (by kernel_rfl) (by kernel_rfl) (lkΓ_cons latch_Check_ok lkΓ_nil) (by decide +kernel) (by decide +kernel) (fun _ _ _ => rfl) latch_Version_cuts (fun x => latch_Version_run  x), bodied_of Try.func14 (by decide +kernel) (by decide +kernel)⟩

/-! tendril/latch.Try -/
def latch_Try (x : Int) : Option (Int × Bool) :=
  (latch_Check (x)).bind fun r0 =>
  bif r0 != (0 : Int) then
    some ((x, Bool.false))
  else
    (latch_Held (x)).bind fun r1 =>
    bif r1 then
      some ((x, Bool.false))
    else
      bif x == (4611686018427387904 : Int) then
        some ((x, Bool.false))
      else
        some ((Go.bits Go.BinOp.or Go.IntKind.i64 x (1 : Int), Bool.true))
def latch_Try_S : Sig := ⟨[⟨false, .int⟩], [⟨false, .int⟩, ⟨false, .bool⟩], false, latch_Try⟩
set_option maxRecDepth 100000 in
theorem latch_Try_run (x : Tup [⟨false, .int⟩]) : (pxFn Try.prog (lkΓ [(10, latch_Check_S), (12, latch_Held_S)]) [] Try.f16 (bodyOf Try.f16) false [⟨false, .int⟩, ⟨false, .bool⟩] (encTup [⟨false, .int⟩] x)).run (fun _ _ _ => none) = latch_Try x := by kernel_rfl
theorem latch_Try_cuts : ∀ p ∈ cuts Try.prog (lkΓ [(10, latch_Check_S), (12, latch_Held_S)]) Try.f16.ntmps [] (bodyOf Try.f16) (κ0 Try.prog Try.f16 false [⟨false, .int⟩, ⟨false, .bool⟩]), CutOk (fun _ _ _ _ => none) p := cutsNil (by kernel_rfl)
theorem latch_Try_ok : SigOk Try.prog 16 latch_Try_S ∧ Bodied Try.prog 16 :=
  ⟨fn_sound (s := latch_Try_S) (T := []) (Λ := fun _ _ _ _ => none) 0 Try.func16 (c := bodyOf Try.f16) (by kernel_rfl) (by kernel_rfl) (lkΓ_cons latch_Check_ok (lkΓ_cons latch_Held_ok lkΓ_nil)) (by decide +kernel) (by decide +kernel) (fun _ _ _ => rfl) latch_Try_cuts (fun x => latch_Try_run  x), bodied_of Try.func16 (by decide +kernel) (by decide +kernel)⟩

/-! tendril/latch.Free -/
def latch_Free (x : Int) : Option (Int × Int) :=
  (latch_Check (x)).bind fun r0 =>
  bif r0 != (0 : Int) then
    some (((0 : Int), r0))
  else
    (latch_Held (x)).bind fun r1 =>
    bif !r1 then
      some (((0 : Int), (2 : Int)))
    else
      some ((Go.RowKit.wrap64 (x + (1 : Int)), (0 : Int)))
def latch_Free_S : Sig := ⟨[⟨false, .int⟩], [⟨false, .int⟩, ⟨false, .int⟩], false, latch_Free⟩
set_option maxRecDepth 100000 in
theorem latch_Free_run (x : Tup [⟨false, .int⟩]) : (pxFn Try.prog (lkΓ [(10, latch_Check_S), (12, latch_Held_S)]) [] Try.f18 (bodyOf Try.f18) false [⟨false, .int⟩, ⟨false, .int⟩] (encTup [⟨false, .int⟩] x)).run (fun _ _ _ => none) = latch_Free x := by kernel_rfl
theorem latch_Free_cuts : ∀ p ∈ cuts Try.prog (lkΓ [(10, latch_Check_S), (12, latch_Held_S)]) Try.f18.ntmps [] (bodyOf Try.f18) (κ0 Try.prog Try.f18 false [⟨false, .int⟩, ⟨false, .int⟩]), CutOk (fun _ _ _ _ => none) p := cutsNil (by kernel_rfl)
theorem latch_Free_ok : SigOk Try.prog 18 latch_Free_S ∧ Bodied Try.prog 18 :=
  ⟨fn_sound (s := latch_Free_S) (T := []) (Λ := fun _ _ _ _ => none) 0 Try.func18 (c := bodyOf Try.f18) (by kernel_rfl) (by kernel_rfl) (lkΓ_cons latch_Check_ok (lkΓ_cons latch_Held_ok lkΓ_nil)) (by decide +kernel) (by decide +kernel) (fun _ _ _ => rfl) latch_Free_cuts (fun x => latch_Free_run  x), bodied_of Try.func18 (by decide +kernel) (by decide +kernel)⟩

/-! tendril/tendrillaw08.live -/
def tendrillaw08_live (x : Unit) : Option (Bool) :=
  (latch_Try ((4 : Int))).bind fun r0 =>
  (latch_Free ((5 : Int))).bind fun r1 =>
  bif r0.1 == (5 : Int) then
    bif r0.2 then
      bif r1.1 == (6 : Int) then
        bif r1.2 == (0 : Int) then
          (latch_Version ((6 : Int))).bind fun r2 =>
          bif r2 == (3 : Int) then
            (latch_Held ((5 : Int))).bind fun r3 =>
            some (r3)
          else
            some (Bool.false)
        else
          some (Bool.false)
      else
        some (Bool.false)
    else
      some (Bool.false)
  else
    some (Bool.false)
def tendrillaw08_live_S : Sig := ⟨[], [⟨false, .bool⟩], false, tendrillaw08_live⟩
set_option maxRecDepth 100000 in
theorem tendrillaw08_live_run (x : Tup []) : (pxFn Try.prog (lkΓ [(12, latch_Held_S), (14, latch_Version_S), (16, latch_Try_S), (18, latch_Free_S)]) [] Try.f9 (bodyOf Try.f9) false [⟨false, .bool⟩] (encTup [] x)).run (fun _ _ _ => none) = tendrillaw08_live x := by kernel_rfl
theorem tendrillaw08_live_cuts : ∀ p ∈ cuts Try.prog (lkΓ [(12, latch_Held_S), (14, latch_Version_S), (16, latch_Try_S), (18, latch_Free_S)]) Try.f9.ntmps [] (bodyOf Try.f9) (κ0 Try.prog Try.f9 false [⟨false, .bool⟩]), CutOk (fun _ _ _ _ => none) p := cutsNil (by kernel_rfl)
theorem tendrillaw08_live_ok : SigOk Try.prog 9 tendrillaw08_live_S ∧ Bodied Try.prog 9 :=
  ⟨fn_sound (s := tendrillaw08_live_S) (T := []) (Λ := fun _ _ _ _ => none) 0 Try.func9 (c := bodyOf Try.f9) (by kernel_rfl) (by kernel_rfl) (lkΓ_cons latch_Held_ok (lkΓ_cons latch_Version_ok (lkΓ_cons latch_Try_ok (lkΓ_cons latch_Free_ok lkΓ_nil)))) (by decide +kernel) (by decide +kernel) (fun _ _ _ => rfl) tendrillaw08_live_cuts (fun x => tendrillaw08_live_run  x), bodied_of Try.func9 (by decide +kernel) (by decide +kernel)⟩

/-! tendril/tendrillaw08.LatchSeen -/
def tendrillaw08_LatchSeen_L18 : Nat → (Int) → (Int) → (Bool) → (List Bool) → (Int) → (Int) → Option (Bool)
  | 0, _, _, _, _, _, _ => none
  | k + 1, p0, p1, p2, p3, p4, p5 =>
    bif Decidable.decide (p5 < p4) then
      bif Decidable.decide ((0 : Int) ≤ p5) then
        bif Decidable.decide (p5 < (↑p3.length : Int)) then
          bif p3.getD p5.toNat Bool.false then
            (latch_Try (p1)).bind fun r3 =>
            bif p2 then
              bif r3.1 == p0 then
                some (Bool.false)
              else
                (latch_Check (r3.1)).bind fun r4 =>
                bif r4 != (0 : Int) then
                  some (Bool.false)
                else
                  tendrillaw08_LatchSeen_L18 k (p0) (r3.1) (Bool.true) (p3) (p4) (Go.RowKit.wrap64 (p5 + (1 : Int)))
            else
              (latch_Held (r3.1)).bind fun r5 =>
              bif r3.1 == p0 then
                bif r5 then
                  some (Bool.false)
                else
                  (latch_Check (r3.1)).bind fun r6 =>
                  bif r6 != (0 : Int) then
                    some (Bool.false)
                  else
                    tendrillaw08_LatchSeen_L18 k (p0) (r3.1) (r5) (p3) (p4) (Go.RowKit.wrap64 (p5 + (1 : Int)))
              else
                (latch_Check (r3.1)).bind fun r7 =>
                bif r7 != (0 : Int) then
                  some (Bool.false)
                else
                  tendrillaw08_LatchSeen_L18 k (p0) (r3.1) (r5) (p3) (p4) (Go.RowKit.wrap64 (p5 + (1 : Int)))
          else
            (latch_Free (p1)).bind fun r8 =>
            bif r8.2 == (0 : Int) then
              bif p2 then
                bif r8.1 == p0 then
                  some (Bool.false)
                else
                  (latch_Check (r8.1)).bind fun r9 =>
                  bif r9 != (0 : Int) then
                    some (Bool.false)
                  else
                    tendrillaw08_LatchSeen_L18 k (p0) (r8.1) (Bool.true) (p3) (p4) (Go.RowKit.wrap64 (p5 + (1 : Int)))
              else
                (latch_Held (r8.1)).bind fun r10 =>
                bif r8.1 == p0 then
                  bif r10 then
                    some (Bool.false)
                  else
                    (latch_Check (r8.1)).bind fun r11 =>
                    bif r11 != (0 : Int) then
                      some (Bool.false)
                    else
                      tendrillaw08_LatchSeen_L18 k (p0) (r8.1) (r10) (p3) (p4) (Go.RowKit.wrap64 (p5 + (1 : Int)))
                else
                  (latch_Check (r8.1)).bind fun r12 =>
                  bif r12 != (0 : Int) then
                    some (Bool.false)
                  else
                    tendrillaw08_LatchSeen_L18 k (p0) (r8.1) (r10) (p3) (p4) (Go.RowKit.wrap64 (p5 + (1 : Int)))
            else
              bif p2 then
                bif p1 == p0 then
                  some (Bool.false)
                else
                  (latch_Check (p1)).bind fun r13 =>
                  bif r13 != (0 : Int) then
                    some (Bool.false)
                  else
                    tendrillaw08_LatchSeen_L18 k (p0) (p1) (Bool.true) (p3) (p4) (Go.RowKit.wrap64 (p5 + (1 : Int)))
              else
                (latch_Held (p1)).bind fun r14 =>
                bif p1 == p0 then
                  bif r14 then
                    some (Bool.false)
                  else
                    (latch_Check (p1)).bind fun r15 =>
                    bif r15 != (0 : Int) then
                      some (Bool.false)
                    else
                      tendrillaw08_LatchSeen_L18 k (p0) (p1) (r14) (p3) (p4) (Go.RowKit.wrap64 (p5 + (1 : Int)))
                else
                  (latch_Check (p1)).bind fun r16 =>
                  bif r16 != (0 : Int) then
                    some (Bool.false)
                  else
                    tendrillaw08_LatchSeen_L18 k (p0) (p1) (r14) (p3) (p4) (Go.RowKit.wrap64 (p5 + (1 : Int)))
        else
          none
      else
        none
    else
      some (Bool.true)
def tendrillaw08_LatchSeen_P18 (k : Nat) (vs : List SV) (bs : List Blk) : Option (Bool) := match vs, bs with
  | [.val (.one (.int .i64 p0)), .val (.one (.int .i64 p1)), .val (.one (.bool p2)), .val (.one (.sl .bool p3)), .val (.one (.int .i64 p4)), .val (.one (.int .i64 p5))], [] => tendrillaw08_LatchSeen_L18 k p0 p1 p2 p3 p4 p5
  | _, _ => none
def tendrillaw08_LatchSeen_Λ (k L : Nat) (vs : List SV) (bs : List Blk) : Option (Bool) := match Nat.beq L 18 with | true => tendrillaw08_LatchSeen_P18 k vs bs | false => none
def tendrillaw08_LatchSeen_K (K : Nat) (x : Int × List Bool) : Option (Bool) :=
  (tendrillaw08_live (())).bind fun r0 =>
  bif !r0 then
    some (Bool.false)
  else
    bif Decidable.decide ((60 : Int) < (↑(List.length x.2) : Int)) then
      some (Bool.true)
    else
      (latch_Check (x.1)).bind fun r1 =>
      bif r1 != (0 : Int) then
        some (Bool.true)
      else
        (latch_Held (x.1)).bind fun r2 =>
        bif r2 then
          some (Bool.true)
        else
          tendrillaw08_LatchSeen_L18 K (x.1) (x.1) (Bool.false) (x.2) ((↑(List.length x.2) : Int)) ((0 : Int))
def tendrillaw08_LatchSeen (x : Int × (List Bool)) : Option (Bool) := tendrillaw08_LatchSeen_K 2000000 x
def tendrillaw08_LatchSeen_S : Sig := ⟨[⟨false, .int⟩, ⟨false, (.sl .bool)⟩], [⟨false, .bool⟩], false, tendrillaw08_LatchSeen⟩
noncomputable def tendrillaw08_LatchSeen_C : List (Cut (Tup [⟨false, .bool⟩])) := cuts Try.prog (lkΓ [(9, tendrillaw08_live_S), (10, latch_Check_S), (12, latch_Held_S), (16, latch_Try_S), (18, latch_Free_S)]) Try.f6.ntmps [(18, [0, 5, 6, 26, 27, 28])] (bodyOf Try.f6) (κ0 Try.prog Try.f6 false [⟨false, .bool⟩])
set_option maxRecDepth 100000 in
theorem tendrillaw08_LatchSeen_c18 (k : Nat) (p0 : Int) (p1 : Int) (p2 : Bool) (p3 : List Bool) (p4 : Int) (p5 : Int) : ((nthC tendrillaw08_LatchSeen_C 0).g (mkSt [0, 5, 6, 26, 27, 28] [.val (.one (.int .i64 p0)), .val (.one (.int .i64 p1)), .val (.one (.bool p2)), .val (.one (.sl .bool p3)), .val (.one (.int .i64 p4)), .val (.one (.int .i64 p5))] [])).run (tendrillaw08_LatchSeen_Λ k) = tendrillaw08_LatchSeen_L18 (k + 1) p0 p1 p2 p3 p4 p5 := by kernel_rfl
theorem tendrillaw08_LatchSeen_d18 : CutOk tendrillaw08_LatchSeen_Λ (nthC tendrillaw08_LatchSeen_C 0) := by
  refine cutOk_of (L := 18) (live := [0, 5, 6, 26, 27, 28]) (by kernel_rfl) (by kernel_rfl) fun k vs bs r h => ?_
  change tendrillaw08_LatchSeen_P18 (k + 1) vs bs = some r at h
  unfold tendrillaw08_LatchSeen_P18 at h
  split at h
  · exact (tendrillaw08_LatchSeen_c18 k _ _ _ _ _ _).trans h
  · cases h
theorem tendrillaw08_LatchSeen_cuts : ∀ p ∈ cuts Try.prog (lkΓ [(9, tendrillaw08_live_S), (10, latch_Check_S), (12, latch_Held_S), (16, latch_Try_S), (18, latch_Free_S)]) Try.f6.ntmps [(18, [0, 5, 6, 26, 27, 28])] (bodyOf Try.f6) (κ0 Try.prog Try.f6 false [⟨false, .bool⟩]), CutOk tendrillaw08_LatchSeen_Λ p := cutsOk (l := tendrillaw08_LatchSeen_C) (n := 1) (by kernel_rfl) fun
  | 0, _ => tendrillaw08_LatchSeen_d18
  | k + 1, h => absurd h (by omega)
theorem tendrillaw08_LatchSeen_Λ0 (L : Nat) (vs : List SV) (bs : List Blk) : tendrillaw08_LatchSeen_Λ 0 L vs bs = none := by
  unfold tendrillaw08_LatchSeen_Λ
  split
  · unfold tendrillaw08_LatchSeen_P18; split
    · first | rfl | (unfold tendrillaw08_LatchSeen_L18; rfl)
    · rfl
  rfl
set_option maxRecDepth 100000 in
theorem tendrillaw08_LatchSeen_run (K : Nat) (x : Tup [⟨false, .int⟩, ⟨false, (.sl .bool)⟩]) : (pxFn Try.prog (lkΓ [(9, tendrillaw08_live_S), (10, latch_Check_S), (12, latch_Held_S), (16, latch_Try_S), (18, latch_Free_S)]) [(18, [0, 5, 6, 26, 27, 28])] Try.f6 (bodyOf Try.f6) false [⟨false, .bool⟩] (encTup [⟨false, .int⟩, ⟨false, (.sl .bool)⟩] x)).run (tendrillaw08_LatchSeen_Λ K) = tendrillaw08_LatchSeen_K K x := by kernel_rfl
theorem tendrillaw08_LatchSeen_ok : SigOk Try.prog 6 tendrillaw08_LatchSeen_S ∧ Bodied Try.prog 6 :=
  ⟨fn_sound (s := tendrillaw08_LatchSeen_S) (T := [(18, [0, 5, 6, 26, 27, 28])]) (Λ := tendrillaw08_LatchSeen_Λ) 2000000 Try.func6 (c := bodyOf Try.f6) (by kernel_rfl) (by kernel_rfl) (lkΓ_cons tendrillaw08_live_ok (lkΓ_cons latch_Check_ok (lkΓ_cons latch_Held_ok (lkΓ_cons latch_Try_ok (lkΓ_cons latch_Free_ok lkΓ_nil))))) (by decide +kernel) (by decide +kernel) tendrillaw08_LatchSeen_Λ0 tendrillaw08_LatchSeen_cuts (fun x => tendrillaw08_LatchSeen_run 2000000 x), bodied_of Try.func6 (by decide +kernel) (by decide +kernel)⟩

/-! tendril/tendrillaw08.LatchFree -/
def tendrillaw08_LatchFree (x : Int) : Option (Bool) :=
  (tendrillaw08_live (())).bind fun r0 =>
  bif !r0 then
    some (Bool.false)
  else
    (latch_Free (x)).bind fun r1 =>
    (latch_Check (x)).bind fun r2 =>
    bif r2 != (0 : Int) then
      bif r1.2 == (1 : Int) then
        bif r1.1 == (0 : Int) then
          (latch_Held (x)).bind fun r3 =>
          bif !r3 then
            (latch_Version (x)).bind fun r4 =>
            some (r4 == (-1 : Int))
          else
            some (Bool.false)
        else
          some (Bool.false)
      else
        some (Bool.false)
    else
      (latch_Held (x)).bind fun r5 =>
      bif (r1.2 == (0 : Int)) == r5 then
        bif r1.2 == (0 : Int) then
          bif r1.1 == Go.RowKit.wrap64 (x + (1 : Int)) then
            some (Bool.true)
          else
            bif r1.2 == (2 : Int) then
              some (r1.1 == (0 : Int))
            else
              some (Bool.false)
        else
          bif r1.2 == (2 : Int) then
            some (r1.1 == (0 : Int))
          else
            some (Bool.false)
      else
        some (Bool.false)
def tendrillaw08_LatchFree_S : Sig := ⟨[⟨false, .int⟩], [⟨false, .bool⟩], false, tendrillaw08_LatchFree⟩
set_option maxRecDepth 100000 in
theorem tendrillaw08_LatchFree_run (x : Tup [⟨false, .int⟩]) : (pxFn Try.prog (lkΓ [(9, tendrillaw08_live_S), (10, latch_Check_S), (12, latch_Held_S), (14, latch_Version_S), (18, latch_Free_S)]) [] Try.f8 (bodyOf Try.f8) false [⟨false, .bool⟩] (encTup [⟨false, .int⟩] x)).run (fun _ _ _ => none) = tendrillaw08_LatchFree x := by kernel_rfl
theorem tendrillaw08_LatchFree_cuts : ∀ p ∈ cuts Try.prog (lkΓ [(9, tendrillaw08_live_S), (10, latch_Check_S), (12, latch_Held_S), (14, latch_Version_S), (18, latch_Free_S)]) Try.f8.ntmps [] (bodyOf Try.f8) (κ0 Try.prog Try.f8 false [⟨false, .bool⟩]), CutOk (fun _ _ _ _ => none) p := cutsNil (by kernel_rfl)
theorem tendrillaw08_LatchFree_ok : SigOk Try.prog 8 tendrillaw08_LatchFree_S ∧ Bodied Try.prog 8 :=
  ⟨fn_sound (s := tendrillaw08_LatchFree_S) (T := []) (Λ := fun _ _ _ _ => none) 0 Try.func8 (c := bodyOf Try.f8) (by kernel_rfl) (by kernel_rfl) (lkΓ_cons tendrillaw08_live_ok (lkΓ_cons latch_Check_ok (lkΓ_cons latch_Held_ok (lkΓ_cons latch_Version_ok (lkΓ_cons latch_Free_ok lkΓ_nil))))) (by decide +kernel) (by decide +kernel) (fun _ _ _ => rfl) tendrillaw08_LatchFree_cuts (fun x => tendrillaw08_LatchFree_run  x), bodied_of Try.func8 (by decide +kernel) (by decide +kernel)⟩

end Go.Proofs.YtfnkomlakgiicabFn
