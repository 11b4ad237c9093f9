/- What the functions that this seat's laws reach compute, as plain functions, each with its contract; no condition. -/
import Derived.Test.YtfnkomlakgiicadProg
import Derived.KernelRfl
import Derived.Test.YtfnkomlakgiicadPx25
set_option linter.unusedVariables false
set_option linter.unusedSimpArgs false
namespace Go.Proofs.YtfnkomlakgiicadFn
open Go Go.RowKit Go.Proofs.YtfnkomlakgiicadPx

/-! tendril/place.Check -/
def place_Check (x : Int × Int × Int × Int × Int) : Option (Int) :=
  bif Decidable.decide ((if x.snd.snd.snd.2 < if x.snd.snd.snd.1 < if x.snd.snd.1 < if x.snd.1 < x.1 then x.snd.1 else x.1 then x.snd.snd.1 else if x.snd.1 < x.1 then x.snd.1 else x.1 then x.snd.snd.snd.1 else if x.snd.snd.1 < if x.snd.1 < x.1 then x.snd.1 else x.1 then x.snd.snd.1 else if x.snd.1 < x.1 then x.snd.1 else x.1 then x.snd.snd.snd.2 else if x.snd.snd.snd.1 < if x.snd.snd.1 < if x.snd.1 < x.1 then x.snd.1 else x.1 then x.snd.snd.1 else if x.snd.1 < x.1 then x.snd.1 else x.1 then x.snd.snd.snd.1 else if x.snd.snd.1 < if x.snd.1 < x.1 then x.snd.1 else x.1 then x.snd.snd.1 else if x.snd.1 < x.1 then x.snd.1 else x.1) < (1 : Int)) then
    some ((1 : Int))
  else
    bif Decidable.decide ((64 : Int) < if (if x.1 < x.snd.1 then x.snd.1 else x.1) < x.snd.snd.1 then x.snd.snd.1 else if x.1 < x.snd.1 then x.snd.1 else x.1) then
      some ((1 : Int))
    else
      bif Decidable.decide ((64 : Int) < if x.snd.snd.snd.1 < x.snd.snd.snd.2 then x.snd.snd.snd.2 else x.snd.snd.snd.1) then
        some ((1 : Int))
      else
        some ((0 : Int))
def place_Check_S : Sig := ⟨[⟨true, (.pair .int (.pair .int (.pair .int (.pair .int .int))))⟩], [⟨false, .int⟩], false, place_Check⟩
set_option maxRecDepth 100000 in
theorem place_Check_run (x : Tup [⟨true, (.pair .int (.pair .int (.pair .int (.pair .int .int))))⟩]) : (pxFn Try.prog (lkΓ []) [] Try.f10 (bodyOf Try.f10) false [⟨false, .int⟩] (encTup [⟨true, (.pair .int (.pair .int (.pair .int (.pair .int .int))))⟩] x)).run (fun _ _ _ => none) = place_Check x := by kernel_rfl
theorem place_Check_cuts : ∀ p ∈ cuts Try.prog (lkΓ []) Try.f10.ntmps [] (bodyOf Try.f10) (κ0 Try.prog Try.f10 false [⟨false, .int⟩]), CutOk (fun _ _ _ _ => none) p := cutsNil (by kernel_rfl)
theorem place_Check_ok : SigOk Try.prog 10 place_Check_S ∧ Bodied Try.prog 10 :=
  ⟨fn_sound (s := place_Check_S) (T := []) (Λ := fun _ _ _ _ => none) 0 Try.func10 (c := bodyOf Try.f10) (by kernel_rfl) (by kernel_rfl) lkΓ_nil (by decide +kernel) (by decide +kernel) (fun _ _ _ => rfl) place_Check_cuts (fun x => place_Check_run  x), bodied_of Try.func10 (by decide +kernel) (by decide +kernel)⟩

/-! tendril/place.kinds -/
def place_kinds (x : Int × Int × Int × Int × Int) : Option ((Int × Int × Int) × (Int × Int × Int) × (Int × Int × Int) × (Int × Int × Int) × Int × Int × Int) :=
  some ((((0 : Int), (0 : Int), (0 : Int)), (x.1, (4 : Int), Go.RowKit.wrap64 (Go.RowKit.wrap64 ((2 : Int) + x.snd.snd.snd.1) + x.snd.snd.snd.2)), (x.snd.1, (5 : Int), Go.RowKit.wrap64 (Go.RowKit.wrap64 (Go.RowKit.wrap64 ((2 : Int) + x.snd.snd.snd.1) + x.snd.snd.snd.2) + Go.RowKit.wrap64 (x.1 * (4 : Int)))), (x.snd.snd.1, (3 : Int), Go.RowKit.wrap64 (Go.RowKit.wrap64 (Go.RowKit.wrap64 (Go.RowKit.wrap64 ((2 : Int) + x.snd.snd.snd.1) + x.snd.snd.snd.2) + Go.RowKit.wrap64 (x.1 * (4 : Int))) + Go.RowKit.wrap64 (x.snd.1 * (5 : Int)))), (0 : Int), (0 : Int), Go.RowKit.wrap64 (Go.RowKit.wrap64 (Go.RowKit.wrap64 (Go.RowKit.wrap64 (Go.RowKit.wrap64 ((2 : Int) + x.snd.snd.snd.1) + x.snd.snd.snd.2) + Go.RowKit.wrap64 (x.1 * (4 : Int))) + Go.RowKit.wrap64 (x.snd.1 * (5 : Int))) + Go.RowKit.wrap64 (x.snd.snd.1 * (3 : Int)))))
def place_kinds_S : Sig := ⟨[⟨true, (.pair .int (.pair .int (.pair .int (.pair .int .int))))⟩], [⟨true, (.pair (.pair .int (.pair .int .int)) (.pair (.pair .int (.pair .int .int)) (.pair (.pair .int (.pair .int .int)) (.pair (.pair .int (.pair .int .int)) (.pair .int (.pair .int .int))))))⟩], false, place_kinds⟩
set_option maxRecDepth 100000 in
theorem place_kinds_run (x : Tup [⟨true, (.pair .int (.pair .int (.pair .int (.pair .int .int))))⟩]) : (pxFn Try.prog (lkΓ []) [] Try.f25 (bodyOf Try.f25) false [⟨true, (.pair (.pair .int (.pair .int .int)) (.pair (.pair .int (.pair .int .int)) (.pair (.pair .int (.pair .int .int)) (.pair (.pair .int (.pair .int .int)) (.pair .int (.pair .int .int))))))⟩] (encTup [⟨true, (.pair .int (.pair .int (.pair .int (.pair .int .int))))⟩] x)).run (fun _ _ _ => none) = place_kinds x := by kernel_rfl
theorem place_kinds_cuts : ∀ p ∈ cuts Try.prog (lkΓ []) Try.f25.ntmps [] (bodyOf Try.f25) (κ0 Try.prog Try.f25 false [⟨true, (.pair (.pair .int (.pair .int .int)) (.pair (.pair .int (.pair .int .int)) (.pair (.pair .int (.pair .int .int)) (.pair (.pair .int (.pair .int .int)) (.pair .int (.pair .int .int))))))⟩]), CutOk (fun _ _ _ _ => none) p := cutsNil (by kernel_rfl)
theorem place_kinds_ok : SigOk Try.prog 25 place_kinds_S ∧ Bodied Try.prog 25 :=
  ⟨fn_sound (s := place_kinds_S) (T := []) (Λ := fun _ _ _ _ => none) 0 Try.func25 (c := bodyOf Try.f25) (by kernel_rfl) (by kernel_rfl) lkΓ_nil (by decide +kernel) (by decide +kernel) (fun _ _ _ => rfl) place_kinds_cuts (fun x => place_kinds_run  x), bodied_of Try.func25 (by decide +kernel) (by decide +kernel)⟩

/-! tendril/place.Field -/
def place_Field (x : (Int × Int × Int × Int × Int) × Int × Int × Int) : Option (Int × Int) :=
  (place_Check ((x.fst.1, x.fst.snd.1, x.fst.snd.snd.1, x.fst.snd.snd.snd.1, x.fst.snd.snd.snd.2))).bind fun r0 =>
  bif r0 != (0 : Int) then
    some (((0 : Int), (1 : Int)))
  else
    bif Decidable.decide (x.snd.1 < (1 : Int)) then
      some (((0 : Int), (1 : Int)))
    else
      bif Decidable.decide ((3 : Int) < x.snd.1) then
        some (((0 : Int), (1 : Int)))
      else
        (place_kinds ((x.fst.1, x.fst.snd.1, x.fst.snd.snd.1, x.fst.snd.snd.snd.1, x.fst.snd.snd.snd.2))).bind fun r1 =>
        bif Decidable.decide (x.snd.1 = (↑(nat_lit 4) : Int)) then
          bif Decidable.decide (x.snd.snd.1 < (0 : Int)) then
            some (((0 : Int), (1 : Int)))
          else
            bif Decidable.decide (r1.snd.snd.snd.snd.1 ≤ x.snd.snd.1) then
              some (((0 : Int), (1 : Int)))
            else
              bif Decidable.decide (x.snd.snd.2 < (0 : Int)) then
                some (((0 : Int), (1 : Int)))
              else
                bif Decidable.decide (r1.snd.snd.snd.snd.snd.1 ≤ x.snd.snd.2) then
                  some (((0 : Int), (1 : Int)))
                else
                  some ((Go.RowKit.wrap64 (Go.RowKit.wrap64 (r1.snd.snd.snd.snd.snd.2 + Go.RowKit.wrap64 (x.snd.snd.1 * r1.snd.snd.snd.snd.snd.1)) + x.snd.snd.2), (0 : Int)))
        else
          bif Decidable.decide (x.snd.1 = (↑(nat_lit 3) : Int)) then
            bif Decidable.decide (x.snd.snd.1 < (0 : Int)) then
              some (((0 : Int), (1 : Int)))
            else
              bif Decidable.decide (r1.snd.snd.snd.fst.1 ≤ x.snd.snd.1) then
                some (((0 : Int), (1 : Int)))
              else
                bif Decidable.decide (x.snd.snd.2 < (0 : Int)) then
                  some (((0 : Int), (1 : Int)))
                else
                  bif Decidable.decide (r1.snd.snd.snd.fst.snd.1 ≤ x.snd.snd.2) then
                    some (((0 : Int), (1 : Int)))
                  else
                    some ((Go.RowKit.wrap64 (Go.RowKit.wrap64 (r1.snd.snd.snd.fst.snd.2 + Go.RowKit.wrap64 (x.snd.snd.1 * r1.snd.snd.snd.fst.snd.1)) + x.snd.snd.2), (0 : Int)))
          else
            bif Decidable.decide (x.snd.1 = (↑(nat_lit 2) : Int)) then
              bif Decidable.decide (x.snd.snd.1 < (0 : Int)) then
                some (((0 : Int), (1 : Int)))
              else
                bif Decidable.decide (r1.snd.snd.fst.1 ≤ x.snd.snd.1) then
                  some (((0 : Int), (1 : Int)))
                else
                  bif Decidable.decide (x.snd.snd.2 < (0 : Int)) then
                    some (((0 : Int), (1 : Int)))
                  else
                    bif Decidable.decide (r1.snd.snd.fst.snd.1 ≤ x.snd.snd.2) then
                      some (((0 : Int), (1 : Int)))
                    else
                      some ((Go.RowKit.wrap64 (Go.RowKit.wrap64 (r1.snd.snd.fst.snd.2 + Go.RowKit.wrap64 (x.snd.snd.1 * r1.snd.snd.fst.snd.1)) + x.snd.snd.2), (0 : Int)))
            else
              bif Decidable.decide (x.snd.1 = (↑(nat_lit 1) : Int)) then
                bif Decidable.decide (x.snd.snd.1 < (0 : Int)) then
                  some (((0 : Int), (1 : Int)))
                else
                  bif Decidable.decide (r1.snd.fst.1 ≤ x.snd.snd.1) then
                    some (((0 : Int), (1 : Int)))
                  else
                    bif Decidable.decide (x.snd.snd.2 < (0 : Int)) then
                      some (((0 : Int), (1 : Int)))
                    else
                      bif Decidable.decide (r1.snd.fst.snd.1 ≤ x.snd.snd.2) then
                        some (((0 : Int), (1 : Int)))
                      else
                        some ((Go.RowKit.wrap64 (Go.RowKit.wrap64 (r1.snd.fst.snd.2 + Go.RowKit.wrap64 (x.snd.snd.1 * r1.snd.fst.snd.1)) + x.snd.snd.2), (0 : Int)))
              else
                bif Decidable.decide (x.snd.1 = (↑(nat_lit 0) : Int)) then
                  bif Decidable.decide (x.snd.snd.1 < (0 : Int)) then
                    some (((0 : Int), (1 : Int)))
                  else
                    bif Decidable.decide (r1.fst.1 ≤ x.snd.snd.1) then
                      some (((0 : Int), (1 : Int)))
                    else
                      bif Decidable.decide (x.snd.snd.2 < (0 : Int)) then
                        some (((0 : Int), (1 : Int)))
                      else
                        bif Decidable.decide (r1.fst.snd.1 ≤ x.snd.snd.2) then
                          some (((0 : Int), (1 : Int)))
                        else
                          some ((Go.RowKit.wrap64 (Go.RowKit.wrap64 (r1.fst.snd.2 + Go.RowKit.wrap64 (x.snd.snd.1 * r1.fst.snd.1)) + x.snd.snd.2), (0 : Int)))
                else
                  none
def place_Field_S : Sig := ⟨[⟨true, (.pair .int (.pair .int (.pair .int (.pair .int .int))))⟩, ⟨false, .int⟩, ⟨false, .int⟩, ⟨false, .int⟩], [⟨false, .int⟩, ⟨false, .int⟩], false, place_Field⟩
set_option maxRecDepth 100000 in
theorem place_Field_run (x : Tup [⟨true, (.pair .int (.pair .int (.pair .int (.pair .int .int))))⟩, ⟨false, .int⟩, ⟨false, .int⟩, ⟨false, .int⟩]) : (pxFn Try.prog (lkΓ [(10, place_Check_S), (25, place_kinds_S)]) [] Try.f12 (bodyOf Try.f12) false [⟨false, .int⟩, ⟨false, .int⟩] (encTup [⟨true, (.pair .int (.pair .int (.pair .int (.pair .int .int))))⟩, ⟨false, .int⟩, ⟨false, .int⟩, ⟨false, .int⟩] x)).run (fun _ _ _ => none) = place_Field x := by kernel_rfl
theorem place_Field_cuts : ∀ p ∈ cuts Try.prog (lkΓ [(10, place_Check_S), (25, place_kinds_S)]) Try.f12.ntmps [] (bodyOf Try.f12) (κ0 Try.prog Try.f12 false [⟨false, .int⟩, ⟨false, .int⟩]), CutOk (fun _ _ _ _ => none) p := cutsNil (by kernel_rfl)
theorem place_Field_ok : SigOk Try.prog 12 place_Field_S ∧ Bodied Try.prog 12 :=
  ⟨fn_sound (s := place_Field_S) (T := []) (Λ := fun _ _ _ _ => none) 0 Try.func12 (c := bodyOf Try.f12) (by kernel_rfl) (by kernel_rfl) (lkΓ_cons (g := 10) (s0 := place_Check_S) place_Check_ok (lkΓ_cons (g := 25) (s0 := place_kinds_S) place_kinds_ok lkΓ_nil)) (by decide +kernel) (by decide +kernel) (fun _ _ _ => rfl) place_Field_cuts (fun x => place_Field_run  x), bodied_of Try.func12 (by decide +kernel) (by decide +kernel)⟩

/-! tendril/tendrillaw03.live -/
def tendrillaw03_live (x : Unit) : Option (Bool) :=
  (place_Field ((((1 : Int), (1 : Int), (1 : Int), (2 : Int), (1 : Int)), (1 : Int), (0 : Int), (0 : Int)))).bind fun r0 =>
  bif r0.2 == (0 : Int) then
    some (r0.1 == (5 : Int))
  else
    some (Bool.false)
def tendrillaw03_live_S : Sig := ⟨[], [⟨false, .bool⟩], false, tendrillaw03_live⟩
set_option maxRecDepth 100000 in
theorem tendrillaw03_live_run (x : Tup []) : (pxFn Try.prog (lkΓ [(12, place_Field_S)]) [] Try.f9 (bodyOf Try.f9) false [⟨false, .bool⟩] (encTup [] x)).run (fun _ _ _ => none) = tendrillaw03_live x := by kernel_rfl
theorem tendrillaw03_live_cuts : ∀ p ∈ cuts Try.prog (lkΓ [(12, place_Field_S)]) Try.f9.ntmps [] (bodyOf Try.f9) (κ0 Try.prog Try.f9 false [⟨false, .bool⟩]), CutOk (fun _ _ _ _ => none) p := cutsNil (by kernel_rfl)
theorem tendrillaw03_live_ok : SigOk Try.prog 9 tendrillaw03_live_S ∧ Bodied Try.prog 9 :=
  ⟨fn_sound (s := tendrillaw03_live_S) (T := []) (Λ := fun _ _ _ _ => none) 0 Try.func9 (c := bodyOf Try.f9) (by kernel_rfl) (by kernel_rfl) (lkΓ_cons (g := 12) (s0 := place_Field_S) place_Field_ok lkΓ_nil) (by decide +kernel) (by decide +kernel) (fun _ _ _ => rfl) tendrillaw03_live_cuts (fun x => tendrillaw03_live_run  x), bodied_of Try.func9 (by decide +kernel) (by decide +kernel)⟩

/-! tendril/place.Size -/
def place_Size (x : Int × Int × Int × Int × Int) : Option (Int) :=
  (place_Check ((x.1, x.snd.1, x.snd.snd.1, x.snd.snd.snd.1, x.snd.snd.snd.2))).bind fun r0 =>
  bif r0 != (0 : Int) then
    some ((0 : Int))
  else
    (place_kinds ((x.1, x.snd.1, x.snd.snd.1, x.snd.snd.snd.1, x.snd.snd.snd.2))).bind fun r1 =>
    some (r1.snd.snd.snd.snd.snd.2)
def place_Size_S : Sig := ⟨[⟨true, (.pair .int (.pair .int (.pair .int (.pair .int .int))))⟩], [⟨false, .int⟩], false, place_Size⟩
set_option maxRecDepth 100000 in
theorem place_Size_run (x : Tup [⟨true, (.pair .int (.pair .int (.pair .int (.pair .int .int))))⟩]) : (pxFn Try.prog (lkΓ [(10, place_Check_S), (25, place_kinds_S)]) [] Try.f11 (bodyOf Try.f11) false [⟨false, .int⟩] (encTup [⟨true, (.pair .int (.pair .int (.pair .int (.pair .int .int))))⟩] x)).run (fun _ _ _ => none) = place_Size x := by kernel_rfl
theorem place_Size_cuts : ∀ p ∈ cuts Try.prog (lkΓ [(10, place_Check_S), (25, place_kinds_S)]) Try.f11.ntmps [] (bodyOf Try.f11) (κ0 Try.prog Try.f11 false [⟨false, .int⟩]), CutOk (fun _ _ _ _ => none) p := cutsNil (by kernel_rfl)
theorem place_Size_ok : SigOk Try.prog 11 place_Size_S ∧ Bodied Try.prog 11 :=
  ⟨fn_sound (s := place_Size_S) (T := []) (Λ := fun _ _ _ _ => none) 0 Try.func11 (c := bodyOf Try.f11) (by kernel_rfl) (by kernel_rfl) (lkΓ_cons (g := 10) (s0 := place_Check_S) place_Check_ok (lkΓ_cons (g := 25) (s0 := place_kinds_S) place_kinds_ok lkΓ_nil)) (by decide +kernel) (by decide +kernel) (fun _ _ _ => rfl) place_Size_cuts (fun x => place_Size_run  x), bodied_of Try.func11 (by decide +kernel) (by decide +kernel)⟩

/-! tendril/tendrillaw03.PlaceSize -/
def tendrillaw03_PlaceSize (x : (Int × Int × Int × Int × Int) × Int) : Option (Bool) :=
  (tendrillaw03_live (())).bind fun r0 =>
  bif !r0 then
    some (Bool.false)
  else
    (place_Check ((x.fst.1, x.fst.snd.1, x.fst.snd.snd.1, x.fst.snd.snd.snd.1, x.fst.snd.snd.snd.2))).bind fun r1 =>
    bif r1 != (0 : Int) then
      (place_Size ((x.fst.1, x.fst.snd.1, x.fst.snd.snd.1, x.fst.snd.snd.snd.1, x.fst.snd.snd.snd.2))).bind fun r2 =>
      some (r2 == (0 : Int))
    else
      (place_Field (((x.fst.1, x.fst.snd.1, x.fst.snd.snd.1, x.fst.snd.snd.snd.1, x.fst.snd.snd.snd.2), (3 : Int), Go.RowKit.wrap64 (x.fst.snd.snd.1 - (1 : Int)), (2 : Int)))).bind fun r3 =>
      bif r3.2 != (0 : Int) then
        some (Bool.false)
      else
        (place_Size ((x.fst.1, x.fst.snd.1, x.fst.snd.snd.1, x.fst.snd.snd.snd.1, x.fst.snd.snd.snd.2))).bind fun r4 =>
        bif r3.1 != Go.RowKit.wrap64 (r4 - (1 : Int)) then
          some (Bool.false)
        else
          (place_Size ((x.fst.1, x.fst.snd.1, x.fst.snd.snd.1, x.fst.snd.snd.snd.1, x.fst.snd.snd.snd.2))).bind fun r5 =>
          bif r5 != Go.RowKit.wrap64 (Go.RowKit.wrap64 (Go.RowKit.wrap64 (Go.RowKit.wrap64 (Go.RowKit.wrap64 ((2 : Int) + x.fst.snd.snd.snd.1) + x.fst.snd.snd.snd.2) + Go.RowKit.wrap64 ((4 : Int) * x.fst.1)) + Go.RowKit.wrap64 ((5 : Int) * x.fst.snd.1)) + Go.RowKit.wrap64 ((3 : Int) * x.fst.snd.snd.1)) then
            some (Bool.false)
          else
            (place_Field (((x.fst.1, x.fst.snd.1, x.fst.snd.snd.1, x.fst.snd.snd.snd.1, x.fst.snd.snd.snd.2), (2 : Int), x.2, (0 : Int)))).bind fun r6 =>
            (place_Field (((x.fst.1, x.fst.snd.1, x.fst.snd.snd.1, x.fst.snd.snd.snd.1, x.fst.snd.snd.snd.2), (2 : Int), x.2, (4 : Int)))).bind fun r7 =>
            bif r6.2 != (0 : Int) then
              bif r7.2 == r6.2 then
                bif Decidable.decide (x.2 < (0 : Int)) then
                  some (Bool.true)
                else
                  some (Decidable.decide (x.fst.snd.1 ≤ x.2))
              else
                some (Bool.false)
            else
              bif r7.2 == (0 : Int) then
                some (r7.1 == Go.RowKit.wrap64 (r6.1 + (4 : Int)))
              else
                some (Bool.false)
def tendrillaw03_PlaceSize_S : Sig := ⟨[⟨true, (.pair .int (.pair .int (.pair .int (.pair .int .int))))⟩, ⟨false, .int⟩], [⟨false, .bool⟩], false, tendrillaw03_PlaceSize⟩
set_option maxRecDepth 100000 in
theorem tendrillaw03_PlaceSize_run (x : Tup [⟨true, (.pair .int (.pair .int (.pair .int (.pair .int .int))))⟩, ⟨false, .int⟩]) : (pxFn Try.prog (lkΓ [(9, tendrillaw03_live_S), (10, place_Check_S), (11, place_Size_S), (12, place_Field_S)]) [] Try.f3 (bodyOf Try.f3) false [⟨false, .bool⟩] (encTup [⟨true, (.pair .int (.pair .int (.pair .int (.pair .int .int))))⟩, ⟨false, .int⟩] x)).run (fun _ _ _ => none) = tendrillaw03_PlaceSize x := by kernel_rfl
theorem tendrillaw03_PlaceSize_cuts : ∀ p ∈ cuts Try.prog (lkΓ [(9, tendrillaw03_live_S), (10, place_Check_S), (11, place_Size_S), (12, place_Field_S)]) Try.f3.ntmps [] (bodyOf Try.f3) (κ0 Try.prog Try.f3 false [⟨false, .bool⟩]), CutOk (fun _ _ _ _ => none) p := cutsNil (by kernel_rfl)
theorem tendrillaw03_PlaceSize_ok : SigOk Try.prog 3 tendrillaw03_PlaceSize_S ∧ Bodied Try.prog 3 :=
  ⟨fn_sound (s := tendrillaw03_PlaceSize_S) (T := []) (Λ := fun _ _ _ _ => none) 0 Try.func3 (c := bodyOf Try.f3) (by kernel_rfl) (by kernel_rfl) (lkΓ_cons (g := 9) (s0 := tendrillaw03_live_S) tendrillaw03_live_ok (lkΓ_cons (g := 10) (s0 := place_Check_S) place_Check_ok (lkΓ_cons (g := 11) (s0 := place_Size_S) place_Size_ok (lkΓ_cons (g := 12) (s0 := place_Field_S) place_Field_ok lkΓ_nil)))) (by decide +kernel) (by decide +kernel) (fun _ _ _ => rfl) tendrillaw03_PlaceSize_cuts (fun x => tendrillaw03_PlaceSize_run  x), bodied_of Try.func3 (by decide +kernel) (by decide +kernel)⟩

/-! tendril/place.Node -/
def place_Node (x : (Int × Int × Int × Int × Int) × Int) : Option (Int × Int) :=
  (place_Check ((x.fst.1, x.fst.snd.1, x.fst.snd.snd.1, x.fst.snd.snd.snd.1, x.fst.snd.snd.snd.2))).bind fun r0 =>
  bif r0 != (0 : Int) then
    some (((0 : Int), (1 : Int)))
  else
    bif Decidable.decide (x.2 < (1 : Int)) then
      some (((0 : Int), (1 : Int)))
    else
      bif Decidable.decide (x.fst.snd.snd.snd.1 < x.2) then
        some (((0 : Int), (1 : Int)))
      else
        some ((Go.RowKit.wrap64 (x.2 + (1 : Int)), (0 : Int)))
def place_Node_S : Sig := ⟨[⟨true, (.pair .int (.pair .int (.pair .int (.pair .int .int))))⟩, ⟨false, .int⟩], [⟨false, .int⟩, ⟨false, .int⟩], false, place_Node⟩
set_option maxRecDepth 100000 in
theorem place_Node_run (x : Tup [⟨true, (.pair .int (.pair .int (.pair .int (.pair .int .int))))⟩, ⟨false, .int⟩]) : (pxFn Try.prog (lkΓ [(10, place_Check_S)]) [] Try.f13 (bodyOf Try.f13) false [⟨false, .int⟩, ⟨false, .int⟩] (encTup [⟨true, (.pair .int (.pair .int (.pair .int (.pair .int .int))))⟩, ⟨false, .int⟩] x)).run (fun _ _ _ => none) = place_Node x := by kernel_rfl
theorem place_Node_cuts : ∀ p ∈ cuts Try.prog (lkΓ [(10, place_Check_S)]) Try.f13.ntmps [] (bodyOf Try.f13) (κ0 Try.prog Try.f13 false [⟨false, .int⟩, ⟨false, .int⟩]), CutOk (fun _ _ _ _ => none) p := cutsNil (by kernel_rfl)
theorem place_Node_ok : SigOk Try.prog 13 place_Node_S ∧ Bodied Try.prog 13 :=
  ⟨fn_sound (s := place_Node_S) (T := []) (Λ := fun _ _ _ _ => none) 0 Try.func13 (c := bodyOf Try.f13) (by kernel_rfl) (by kernel_rfl) (lkΓ_cons (g := 10) (s0 := place_Check_S) place_Check_ok lkΓ_nil) (by decide +kernel) (by decide +kernel) (fun _ _ _ => rfl) place_Node_cuts (fun x => place_Node_run  x), bodied_of Try.func13 (by decide +kernel) (by decide +kernel)⟩

/-! tendril/tendrilref03.Check -/
def tendrilref03_Check (x : Int × Int × Int × Int × Int) : Option (Int) :=
  bif Decidable.decide ([x.1, x.snd.1, x.snd.snd.1, x.snd.snd.snd.1, x.snd.snd.snd.2].getD (Int.toNat (0 : Int)) (0 : Int) < (1 : Int)) then
    some ((1 : Int))
  else
    bif Decidable.decide ((64 : Int) < [x.1, x.snd.1, x.snd.snd.1, x.snd.snd.snd.1, x.snd.snd.snd.2].getD (Int.toNat (0 : Int)) (0 : Int)) then
      some ((1 : Int))
    else
      bif Decidable.decide ([x.1, x.snd.1, x.snd.snd.1, x.snd.snd.snd.1, x.snd.snd.snd.2].getD (Go.RowKit.wrap64 ((0 : Int) + (1 : Int))).toNat (0 : Int) < (1 : Int)) then
        some ((1 : Int))
      else
        bif Decidable.decide ((64 : Int) < [x.1, x.snd.1, x.snd.snd.1, x.snd.snd.snd.1, x.snd.snd.snd.2].getD (Go.RowKit.wrap64 ((0 : Int) + (1 : Int))).toNat (0 : Int)) then
          some ((1 : Int))
        else
          bif Decidable.decide ([x.1, x.snd.1, x.snd.snd.1, x.snd.snd.snd.1, x.snd.snd.snd.2].getD (Go.RowKit.wrap64 (Go.RowKit.wrap64 ((0 : Int) + (1 : Int)) + (1 : Int))).toNat (0 : Int) < (1 : Int)) then
            some ((1 : Int))
          else
            bif Decidable.decide ((64 : Int) < [x.1, x.snd.1, x.snd.snd.1, x.snd.snd.snd.1, x.snd.snd.snd.2].getD (Go.RowKit.wrap64 (Go.RowKit.wrap64 ((0 : Int) + (1 : Int)) + (1 : Int))).toNat (0 : Int)) then
              some ((1 : Int))
            else
              bif Decidable.decide ([x.1, x.snd.1, x.snd.snd.1, x.snd.snd.snd.1, x.snd.snd.snd.2].getD (Go.RowKit.wrap64 (Go.RowKit.wrap64 (Go.RowKit.wrap64 ((0 : Int) + (1 : Int)) + (1 : Int)) + (1 : Int))).toNat (0 : Int) < (1 : Int)) then
                some ((1 : Int))
              else
                bif Decidable.decide ((64 : Int) < [x.1, x.snd.1, x.snd.snd.1, x.snd.snd.snd.1, x.snd.snd.snd.2].getD (Go.RowKit.wrap64 (Go.RowKit.wrap64 (Go.RowKit.wrap64 ((0 : Int) + (1 : Int)) + (1 : Int)) + (1 : Int))).toNat (0 : Int)) then
                  some ((1 : Int))
                else
                  bif Decidable.decide ([x.1, x.snd.1, x.snd.snd.1, x.snd.snd.snd.1, x.snd.snd.snd.2].getD (Go.RowKit.wrap64 (Go.RowKit.wrap64 (Go.RowKit.wrap64 (Go.RowKit.wrap64 ((0 : Int) + (1 : Int)) + (1 : Int)) + (1 : Int)) + (1 : Int))).toNat (0 : Int) < (1 : Int)) then
                    some ((1 : Int))
                  else
                    bif Decidable.decide ((64 : Int) < [x.1, x.snd.1, x.snd.snd.1, x.snd.snd.snd.1, x.snd.snd.snd.2].getD (Go.RowKit.wrap64 (Go.RowKit.wrap64 (Go.RowKit.wrap64 (Go.RowKit.wrap64 ((0 : Int) + (1 : Int)) + (1 : Int)) + (1 : Int)) + (1 : Int))).toNat (0 : Int)) then
                      some ((1 : Int))
                    else
                      some ((0 : Int))
def tendrilref03_Check_S : Sig := ⟨[⟨true, (.pair .int (.pair .int (.pair .int (.pair .int .int))))⟩], [⟨false, .int⟩], false, tendrilref03_Check⟩
set_option maxRecDepth 100000 in
theorem tendrilref03_Check_run (x : Tup [⟨true, (.pair .int (.pair .int (.pair .int (.pair .int .int))))⟩]) : (pxFn Try.prog (lkΓ []) [] Try.f20 (bodyOf Try.f20) false [⟨false, .int⟩] (encTup [⟨true, (.pair .int (.pair .int (.pair .int (.pair .int .int))))⟩] x)).run (fun _ _ _ => none) = tendrilref03_Check x := by kernel_rfl
theorem tendrilref03_Check_cuts : ∀ p ∈ cuts Try.prog (lkΓ []) Try.f20.ntmps [] (bodyOf Try.f20) (κ0 Try.prog Try.f20 false [⟨false, .int⟩]), CutOk (fun _ _ _ _ => none) p := cutsNil (by kernel_rfl)
theorem tendrilref03_Check_ok : SigOk Try.prog 20 tendrilref03_Check_S ∧ Bodied Try.prog 20 :=
  ⟨fn_sound (s := tendrilref03_Check_S) (T := []) (Λ := fun _ _ _ _ => none) 0 Try.func20 (c := bodyOf Try.f20) (by kernel_rfl) (by kernel_rfl) lkΓ_nil (by decide +kernel) (by decide +kernel) (fun _ _ _ => rfl) tendrilref03_Check_cuts (fun x => tendrilref03_Check_run  x), bodied_of Try.func20 (by decide +kernel) (by decide +kernel)⟩

/-! tendril/tendrilref03.Node -/
def tendrilref03_Node (x : (Int × Int × Int × Int × Int) × Int) : Option (Int × Int) :=
  (tendrilref03_Check ((x.fst.1, x.fst.snd.1, x.fst.snd.snd.1, x.fst.snd.snd.snd.1, x.fst.snd.snd.snd.2))).bind fun r0 =>
  bif r0 != (0 : Int) then
    some (((0 : Int), (1 : Int)))
  else
    bif Decidable.decide (x.2 < (1 : Int)) then
      some (((0 : Int), (1 : Int)))
    else
      bif Decidable.decide (x.fst.snd.snd.snd.1 < x.2) then
        some (((0 : Int), (1 : Int)))
      else
        some ((Go.RowKit.wrap64 ((1 : Int) + x.2), (0 : Int)))
def tendrilref03_Node_S : Sig := ⟨[⟨true, (.pair .int (.pair .int (.pair .int (.pair .int .int))))⟩, ⟨false, .int⟩], [⟨false, .int⟩, ⟨false, .int⟩], false, tendrilref03_Node⟩
set_option maxRecDepth 100000 in
theorem tendrilref03_Node_run (x : Tup [⟨true, (.pair .int (.pair .int (.pair .int (.pair .int .int))))⟩, ⟨false, .int⟩]) : (pxFn Try.prog (lkΓ [(20, tendrilref03_Check_S)]) [] Try.f14 (bodyOf Try.f14) false [⟨false, .int⟩, ⟨false, .int⟩] (encTup [⟨true, (.pair .int (.pair .int (.pair .int (.pair .int .int))))⟩, ⟨false, .int⟩] x)).run (fun _ _ _ => none) = tendrilref03_Node x := by kernel_rfl
theorem tendrilref03_Node_cuts : ∀ p ∈ cuts Try.prog (lkΓ [(20, tendrilref03_Check_S)]) Try.f14.ntmps [] (bodyOf Try.f14) (κ0 Try.prog Try.f14 false [⟨false, .int⟩, ⟨false, .int⟩]), CutOk (fun _ _ _ _ => none) p := cutsNil (by kernel_rfl)
theorem tendrilref03_Node_ok : SigOk Try.prog 14 tendrilref03_Node_S ∧ Bodied Try.prog 14 :=
  ⟨fn_sound (s := tendrilref03_Node_S) (T := []) (Λ := fun _ _ _ _ => none) 0 Try.func14 (c := bodyOf Try.f14) (by kernel_rfl) (by kernel_rfl) (lkΓ_cons (g := 20) (s0 := tendrilref03_Check_S) tendrilref03_Check_ok lkΓ_nil) (by decide +kernel) (by decide +kernel) (fun _ _ _ => rfl) tendrilref03_Node_cuts (fun x => tendrilref03_Node_run  x), bodied_of Try.func14 (by decide +kernel) (by decide +kernel)⟩

/-! tendril/place.Edge -/
def place_Edge (x : (Int × Int × Int × Int × Int) × Int) : Option (Int × Int) :=
  (place_Check ((x.fst.1, x.fst.snd.1, x.fst.snd.snd.1, x.fst.snd.snd.snd.1, x.fst.snd.snd.snd.2))).bind fun r0 =>
  bif r0 != (0 : Int) then
    some (((0 : Int), (1 : Int)))
  else
    bif Decidable.decide (x.2 < (1 : Int)) then
      some (((0 : Int), (1 : Int)))
    else
      bif Decidable.decide (x.fst.snd.snd.snd.2 < x.2) then
        some (((0 : Int), (1 : Int)))
      else
        some ((Go.RowKit.wrap64 (Go.RowKit.wrap64 (x.fst.snd.snd.snd.1 + x.2) + (1 : Int)), (0 : Int)))
def place_Edge_S : Sig := ⟨[⟨true, (.pair .int (.pair .int (.pair .int (.pair .int .int))))⟩, ⟨false, .int⟩], [⟨false, .int⟩, ⟨false, .int⟩], false, place_Edge⟩
set_option maxRecDepth 100000 in
theorem place_Edge_run (x : Tup [⟨true, (.pair .int (.pair .int (.pair .int (.pair .int .int))))⟩, ⟨false, .int⟩]) : (pxFn Try.prog (lkΓ [(10, place_Check_S)]) [] Try.f15 (bodyOf Try.f15) false [⟨false, .int⟩, ⟨false, .int⟩] (encTup [⟨true, (.pair .int (.pair .int (.pair .int (.pair .int .int))))⟩, ⟨false, .int⟩] x)).run (fun _ _ _ => none) = place_Edge x := by kernel_rfl
theorem place_Edge_cuts : ∀ p ∈ cuts Try.prog (lkΓ [(10, place_Check_S)]) Try.f15.ntmps [] (bodyOf Try.f15) (κ0 Try.prog Try.f15 false [⟨false, .int⟩, ⟨false, .int⟩]), CutOk (fun _ _ _ _ => none) p := cutsNil (by kernel_rfl)
theorem place_Edge_ok : SigOk Try.prog 15 place_Edge_S ∧ Bodied Try.prog 15 :=
  ⟨fn_sound (s := place_Edge_S) (T := []) (Λ := fun _ _ _ _ => none) 0 Try.func15 (c := bodyOf Try.f15) (by kernel_rfl) (by kernel_rfl) (lkΓ_cons (g := 10) (s0 := place_Check_S) place_Check_ok lkΓ_nil) (by decide +kernel) (by decide +kernel) (fun _ _ _ => rfl) place_Edge_cuts (fun x => place_Edge_run  x), bodied_of Try.func15 (by decide +kernel) (by decide +kernel)⟩

/-! tendril/tendrilref03.Edge -/
def tendrilref03_Edge (x : (Int × Int × Int × Int × Int) × Int) : Option (Int × Int) :=
  (tendrilref03_Check ((x.fst.1, x.fst.snd.1, x.fst.snd.snd.1, x.fst.snd.snd.snd.1, x.fst.snd.snd.snd.2))).bind fun r0 =>
  bif r0 != (0 : Int) then
    some (((0 : Int), (1 : Int)))
  else
    bif Decidable.decide (x.2 < (1 : Int)) then
      some (((0 : Int), (1 : Int)))
    else
      bif Decidable.decide (x.fst.snd.snd.snd.2 < x.2) then
        some (((0 : Int), (1 : Int)))
      else
        some ((Go.RowKit.wrap64 (Go.RowKit.wrap64 ((1 : Int) + x.fst.snd.snd.snd.1) + x.2), (0 : Int)))
def tendrilref03_Edge_S : Sig := ⟨[⟨true, (.pair .int (.pair .int (.pair .int (.pair .int .int))))⟩, ⟨false, .int⟩], [⟨false, .int⟩, ⟨false, .int⟩], false, tendrilref03_Edge⟩
set_option maxRecDepth 100000 in
theorem tendrilref03_Edge_run (x : Tup [⟨true, (.pair .int (.pair .int (.pair .int (.pair .int .int))))⟩, ⟨false, .int⟩]) : (pxFn Try.prog (lkΓ [(20, tendrilref03_Check_S)]) [] Try.f16 (bodyOf Try.f16) false [⟨false, .int⟩, ⟨false, .int⟩] (encTup [⟨true, (.pair .int (.pair .int (.pair .int (.pair .int .int))))⟩, ⟨false, .int⟩] x)).run (fun _ _ _ => none) = tendrilref03_Edge x := by kernel_rfl
theorem tendrilref03_Edge_cuts : ∀ p ∈ cuts Try.prog (lkΓ [(20, tendrilref03_Check_S)]) Try.f16.ntmps [] (bodyOf Try.f16) (κ0 Try.prog Try.f16 false [⟨false, .int⟩, ⟨false, .int⟩]), CutOk (fun _ _ _ _ => none) p := cutsNil (by kernel_rfl)
theorem tendrilref03_Edge_ok : SigOk Try.prog 16 tendrilref03_Edge_S ∧ Bodied Try.prog 16 :=
  ⟨fn_sound (s := tendrilref03_Edge_S) (T := []) (Λ := fun _ _ _ _ => none) 0 Try.func16 (c := bodyOf Try.f16) (by kernel_rfl) (by kernel_rfl) (lkΓ_cons (g := 20) (s0 := tendrilref03_Check_S) tendrilref03_Check_ok lkΓ_nil) (by decide +kernel) (by decide +kernel) (fun _ _ _ => rfl) tendrilref03_Edge_cuts (fun x => tendrilref03_Edge_run  x), bodied_of Try.func16 (by decide +kernel) (by decide +kernel)⟩

/-! tendril/tendrilref03.Cap -/
def tendrilref03_Cap (x : (Int × Int × Int × Int × Int) × Int) : Option (Int × Int) :=
  bif x.2 == (1 : Int) then
    some ((x.fst.1, (4 : Int)))
  else
    bif x.2 == (2 : Int) then
      some ((x.fst.snd.1, (5 : Int)))
    else
      bif x.2 == (3 : Int) then
        some ((x.fst.snd.snd.1, (3 : Int)))
      else
        some (((0 : Int), (0 : Int)))
def tendrilref03_Cap_S : Sig := ⟨[⟨true, (.pair .int (.pair .int (.pair .int (.pair .int .int))))⟩, ⟨false, .int⟩], [⟨false, .int⟩, ⟨false, .int⟩], false, tendrilref03_Cap⟩
set_option maxRecDepth 100000 in
theorem tendrilref03_Cap_run (x : Tup [⟨true, (.pair .int (.pair .int (.pair .int (.pair .int .int))))⟩, ⟨false, .int⟩]) : (pxFn Try.prog (lkΓ []) [] Try.f26 (bodyOf Try.f26) false [⟨false, .int⟩, ⟨false, .int⟩] (encTup [⟨true, (.pair .int (.pair .int (.pair .int (.pair .int .int))))⟩, ⟨false, .int⟩] x)).run (fun _ _ _ => none) = tendrilref03_Cap x := by kernel_rfl
theorem tendrilref03_Cap_cuts : ∀ p ∈ cuts Try.prog (lkΓ []) Try.f26.ntmps [] (bodyOf Try.f26) (κ0 Try.prog Try.f26 false [⟨false, .int⟩, ⟨false, .int⟩]), CutOk (fun _ _ _ _ => none) p := cutsNil (by kernel_rfl)
theorem tendrilref03_Cap_ok : SigOk Try.prog 26 tendrilref03_Cap_S ∧ Bodied Try.prog 26 :=
  ⟨fn_sound (s := tendrilref03_Cap_S) (T := []) (Λ := fun _ _ _ _ => none) 0 Try.func26 (c := bodyOf Try.f26) (by kernel_rfl) (by kernel_rfl) lkΓ_nil (by decide +kernel) (by decide +kernel) (fun _ _ _ => rfl) tendrilref03_Cap_cuts (fun x => tendrilref03_Cap_run  x), bodied_of Try.func26 (by decide +kernel) (by decide +kernel)⟩

/-! tendril/tendrilref03.Field -/
def tendrilref03_Field_L14 : Nat → (Int) → (Int) → (Int) → (Int) → (Int) → (Int) → (Int) → (Int) → (Int) → (Int) → (Int) → Option (Int × Int)
  | 0, _, _, _, _, _, _, _, _, _, _, _ => none
  | k + 1, p0, p1, p2, p3, p4, p5, p6, p7, p8, p9, p10 =>
    bif Decidable.decide (p5 < p0) then
      (tendrilref03_Cap (((p6, p7, p8, p9, p10), p5))).bind fun r2 =>
      tendrilref03_Field_L14 k (p0) (p1) (p2) (p3) (Go.RowKit.wrap64 (p4 + Go.RowKit.wrap64 (r2.1 * r2.2))) (Go.RowKit.wrap64 (p5 + (1 : Int))) (p6) (p7) (p8) (p9) (p10)
    else
      some ((Go.RowKit.wrap64 (Go.RowKit.wrap64 (p4 + Go.RowKit.wrap64 (p3 * p1)) + p2), (0 : Int)))
def tendrilref03_Field_P14v0 (k : Nat) (vs : List SV) (bs : List Blk) : Option (Int × Int) := match vs, bs with
  | [.val (.one (.int .i64 p0)), .val (.one (.int .i64 p1)), .val (.one (.int .i64 p2)), .val (.one (.ptr 0 0)), .val (.one (.int .i64 p3)), .val (.one (.int .i64 p4)), .val (.one (.int .i64 p5))], [.box [(.int .i64 p6), (.int .i64 p7), (.int .i64 p8), (.int .i64 p9), (.int .i64 p10)]] => tendrilref03_Field_L14 k p0 p1 p2 p3 p4 p5 p6 p7 p8 p9 p10
  | _, _ => none
def tendrilref03_Field_P14 (k : Nat) (vs : List SV) (bs : List Blk) : Option (Int × Int) := tendrilref03_Field_P14v0 k vs bs
def tendrilref03_Field_Λ (k L : Nat) (vs : List SV) (bs : List Blk) : Option (Int × Int) := match Nat.beq L 14 with | true => tendrilref03_Field_P14 k vs bs | false => none
def tendrilref03_Field_K (K : Nat) (x : (Int × Int × Int × Int × Int) × Int × Int × Int) : Option (Int × Int) :=
  (tendrilref03_Cap (((x.fst.1, x.fst.snd.1, x.fst.snd.snd.1, x.fst.snd.snd.snd.1, x.fst.snd.snd.snd.2), x.snd.1))).bind fun r0 =>
  (tendrilref03_Check ((x.fst.1, x.fst.snd.1, x.fst.snd.snd.1, x.fst.snd.snd.snd.1, x.fst.snd.snd.snd.2))).bind fun r1 =>
  bif r1 != (0 : Int) then
    some (((0 : Int), (1 : Int)))
  else
    bif Decidable.decide (x.snd.snd.1 < (0 : Int)) then
      some (((0 : Int), (1 : Int)))
    else
      bif Decidable.decide (r0.1 ≤ x.snd.snd.1) then
        some (((0 : Int), (1 : Int)))
      else
        bif Decidable.decide (x.snd.snd.2 < (0 : Int)) then
          some (((0 : Int), (1 : Int)))
        else
          bif Decidable.decide (r0.2 ≤ x.snd.snd.2) then
            some (((0 : Int), (1 : Int)))
          else
            tendrilref03_Field_L14 K (x.snd.1) (x.snd.snd.1) (x.snd.snd.2) (r0.2) (Go.RowKit.wrap64 (Go.RowKit.wrap64 ((2 : Int) + x.fst.snd.snd.snd.1) + x.fst.snd.snd.snd.2)) ((1 : Int)) (x.fst.1) (x.fst.snd.1) (x.fst.snd.snd.1) (x.fst.snd.snd.snd.1) (x.fst.snd.snd.snd.2)
def tendrilref03_Field (x : (Int × (Int × (Int × (Int × Int)))) × Int × Int × Int) : Option (Int × Int) := tendrilref03_Field_K 2000000 x
def tendrilref03_Field_S : Sig := ⟨[⟨true, (.pair .int (.pair .int (.pair .int (.pair .int .int))))⟩, ⟨false, .int⟩, ⟨false, .int⟩, ⟨false, .int⟩], [⟨false, .int⟩, ⟨false, .int⟩], false, tendrilref03_Field⟩
noncomputable def tendrilref03_Field_C : List (Cut (Tup [⟨false, .int⟩, ⟨false, .int⟩])) := cuts Try.prog (lkΓ [(20, tendrilref03_Check_S), (26, tendrilref03_Cap_S)]) Try.f17.ntmps [(14, [1, 2, 3, 4, 11, 12, 13])] (bodyOf Try.f17) (κ0 Try.prog Try.f17 false [⟨false, .int⟩, ⟨false, .int⟩])
set_option maxRecDepth 100000 in
theorem tendrilref03_Field_c14 (k : Nat) (p0 : Int) (p1 : Int) (p2 : Int) (p3 : Int) (p4 : Int) (p5 : Int) (p6 : Int) (p7 : Int) (p8 : Int) (p9 : Int) (p10 : Int) : ((nthC tendrilref03_Field_C 0).g (mkSt [1, 2, 3, 4, 11, 12, 13] [.val (.one (.int .i64 p0)), .val (.one (.int .i64 p1)), .val (.one (.int .i64 p2)), .val (.one (.ptr 0 0)), .val (.one (.int .i64 p3)), .val (.one (.int .i64 p4)), .val (.one (.int .i64 p5))] [.box [(.int .i64 p6), (.int .i64 p7), (.int .i64 p8), (.int .i64 p9), (.int .i64 p10)]])).run (tendrilref03_Field_Λ k) = tendrilref03_Field_L14 (k + 1) p0 p1 p2 p3 p4 p5 p6 p7 p8 p9 p10 := by kernel_rfl
theorem tendrilref03_Field_e14 (k : Nat) (vs : List SV) (bs : List Blk) (r : Int × Int) (h : tendrilref03_Field_P14v0 (k + 1) vs bs = some r) : ((nthC tendrilref03_Field_C 0).g (mkSt [1, 2, 3, 4, 11, 12, 13] vs bs)).run (tendrilref03_Field_Λ k) = some r := by
  unfold tendrilref03_Field_P14v0 at h
  split at h
  · exact (tendrilref03_Field_c14 k _ _ _ _ _ _ _ _ _ _ _).trans h
  · cases h
theorem tendrilref03_Field_d14 : CutOk tendrilref03_Field_Λ (nthC tendrilref03_Field_C 0) := by
  refine cutOk_of (L := 14) (live := [1, 2, 3, 4, 11, 12, 13]) (by kernel_rfl) (by kernel_rfl) fun k vs bs r h => ?_
  change tendrilref03_Field_P14 (k + 1) vs bs = some r at h
  exact tendrilref03_Field_e14 k vs bs r h
theorem tendrilref03_Field_cuts : ∀ p ∈ cuts Try.prog (lkΓ [(20, tendrilref03_Check_S), (26, tendrilref03_Cap_S)]) Try.f17.ntmps [(14, [1, 2, 3, 4, 11, 12, 13])] (bodyOf Try.f17) (κ0 Try.prog Try.f17 false [⟨false, .int⟩, ⟨false, .int⟩]), CutOk tendrilref03_Field_Λ p := cutsOk (l := tendrilref03_Field_C) (n := 1) (by kernel_rfl) fun
  | 0, _ => tendrilref03_Field_d14
  | k + 1, h => absurd h (by omega)
theorem tendrilref03_Field_z14 (vs : List SV) (bs : List Blk) : tendrilref03_Field_P14v0 0 vs bs = none := by
  unfold tendrilref03_Field_P14v0; split
  · first | rfl | (unfold tendrilref03_Field_L14; rfl)
  · rfl
theorem tendrilref03_Field_Λ0 (L : Nat) (vs : List SV) (bs : List Blk) : tendrilref03_Field_Λ 0 L vs bs = none := by
  unfold tendrilref03_Field_Λ
  split
  · unfold tendrilref03_Field_P14
    simp only [tendrilref03_Field_z14]
  rfl
set_option maxRecDepth 100000 in
theorem tendrilref03_Field_run (K : Nat) (x : Tup [⟨true, (.pair .int (.pair .int (.pair .int (.pair .int .int))))⟩, ⟨false, .int⟩, ⟨false, .int⟩, ⟨false, .int⟩]) : (pxFn Try.prog (lkΓ [(20, tendrilref03_Check_S), (26, tendrilref03_Cap_S)]) [(14, [1, 2, 3, 4, 11, 12, 13])] Try.f17 (bodyOf Try.f17) false [⟨false, .int⟩, ⟨false, .int⟩] (encTup [⟨true, (.pair .int (.pair .int (.pair .int (.pair .int .int))))⟩, ⟨false, .int⟩, ⟨false, .int⟩, ⟨false, .int⟩] x)).run (tendrilref03_Field_Λ K) = tendrilref03_Field_K K x := by kernel_rfl
theorem tendrilref03_Field_ok : SigOk Try.prog 17 tendrilref03_Field_S ∧ Bodied Try.prog 17 :=
  ⟨fn_sound (s := tendrilref03_Field_S) (T := [(14, [1, 2, 3, 4, 11, 12, 13])]) (Λ := tendrilref03_Field_Λ) 2000000 Try.func17 (c := bodyOf Try.f17) (by kernel_rfl) (by kernel_rfl) (lkΓ_cons (g := 20) (s0 := tendrilref03_Check_S) tendrilref03_Check_ok (lkΓ_cons (g := 26) (s0 := tendrilref03_Cap_S) tendrilref03_Cap_ok lkΓ_nil)) (by decide +kernel) (by decide +kernel) tendrilref03_Field_Λ0 tendrilref03_Field_cuts (fun x => tendrilref03_Field_run 2000000 x), bodied_of Try.func17 (by decide +kernel) (by decide +kernel)⟩

/-! tendril/tendrillaw03.PlaceTells -/
def tendrillaw03_PlaceTells (x : (Int × Int × Int × Int × Int) × Int × Int × Int × Int) : Option (Bool) :=
  (tendrillaw03_live (())).bind fun r0 =>
  bif !r0 then
    some (Bool.false)
  else
    (place_Node (((x.fst.1, x.fst.snd.1, x.fst.snd.snd.1, x.fst.snd.snd.snd.1, x.fst.snd.snd.snd.2), x.snd.1))).bind fun r1 =>
    (tendrilref03_Node (((x.fst.1, x.fst.snd.1, x.fst.snd.snd.1, x.fst.snd.snd.snd.1, x.fst.snd.snd.snd.2), x.snd.1))).bind fun r2 =>
    (place_Edge (((x.fst.1, x.fst.snd.1, x.fst.snd.snd.1, x.fst.snd.snd.snd.1, x.fst.snd.snd.snd.2), x.snd.1))).bind fun r3 =>
    (tendrilref03_Edge (((x.fst.1, x.fst.snd.1, x.fst.snd.snd.1, x.fst.snd.snd.snd.1, x.fst.snd.snd.snd.2), x.snd.1))).bind fun r4 =>
    (place_Field (((x.fst.1, x.fst.snd.1, x.fst.snd.snd.1, x.fst.snd.snd.snd.1, x.fst.snd.snd.snd.2), x.snd.snd.1, x.snd.snd.snd.1, x.snd.snd.snd.2))).bind fun r5 =>
    (tendrilref03_Field (((x.fst.1, x.fst.snd.1, x.fst.snd.snd.1, x.fst.snd.snd.snd.1, x.fst.snd.snd.snd.2), x.snd.snd.1, x.snd.snd.snd.1, x.snd.snd.snd.2))).bind fun r6 =>
    bif r1.1 == r2.1 then
      bif r1.2 == r2.2 then
        bif r3.1 == r4.1 then
          bif r3.2 == r4.2 then
            bif r5.1 == r6.1 then
              some (r5.2 == r6.2)
            else
              some (Bool.false)
          else
            some (Bool.false)
        else
          some (Bool.false)
      else
        some (Bool.false)
    else
      some (Bool.false)
def tendrillaw03_PlaceTells_S : Sig := ⟨[⟨true, (.pair .int (.pair .int (.pair .int (.pair .int .int))))⟩, ⟨false, .int⟩, ⟨false, .int⟩, ⟨false, .int⟩, ⟨false, .int⟩], [⟨false, .bool⟩], false, tendrillaw03_PlaceTells⟩
set_option maxRecDepth 100000 in
theorem tendrillaw03_PlaceTells_run (x : Tup [⟨true, (.pair .int (.pair .int (.pair .int (.pair .int .int))))⟩, ⟨false, .int⟩, ⟨false, .int⟩, ⟨false, .int⟩, ⟨false, .int⟩]) : (pxFn Try.prog (lkΓ [(9, tendrillaw03_live_S), (12, place_Field_S), (13, place_Node_S), (14, tendrilref03_Node_S), (15, place_Edge_S), (16, tendrilref03_Edge_S), (17, tendrilref03_Field_S)]) [] Try.f4 (bodyOf Try.f4) false [⟨false, .bool⟩] (encTup [⟨true, (.pair .int (.pair .int (.pair .int (.pair .int .int))))⟩, ⟨false, .int⟩, ⟨false, .int⟩, ⟨false, .int⟩, ⟨false, .int⟩] x)).run (fun _ _ _ => none) = tendrillaw03_PlaceTells x := by kernel_rfl
theorem tendrillaw03_PlaceTells_cuts : ∀ p ∈ cuts Try.prog (lkΓ [(9, tendrillaw03_live_S), (12, place_Field_S), (13, place_Node_S), (14, tendrilref03_Node_S), (15, place_Edge_S), (16, tendrilref03_Edge_S), (17, tendrilref03_Field_S)]) Try.f4.ntmps [] (bodyOf Try.f4) (κ0 Try.prog Try.f4 false [⟨false, .bool⟩]), CutOk (fun _ _ _ _ => none) p := cutsNil (by kernel_rfl)
theorem tendrillaw03_PlaceTells_ok : SigOk Try.prog 4 tendrillaw03_PlaceTells_S ∧ Bodied Try.prog 4 :=
  ⟨fn_sound (s := tendrillaw03_PlaceTells_S) (T := []) (Λ := fun _ _ _ _ => none) 0 Try.func4 (c := bodyOf Try.f4) (by kernel_rfl) (by kernel_rfl) (lkΓ_cons (g := 9) (s0 := tendrillaw03_live_S) tendrillaw03_live_ok (lkΓ_cons (g := 12) (s0 := place_Field_S) place_Field_ok (lkΓ_cons (g := 13) (s0 := place_Node_S) place_Node_ok (lkΓ_cons (g := 14) (s0 := tendrilref03_Node_S) tendrilref03_Node_ok (lkΓ_cons (g := 15) (s0 := place_Edge_S) place_Edge_ok (lkΓ_cons (g := 16) (s0 := tendrilref03_Edge_S) tendrilref03_Edge_ok (lkΓ_cons (g := 17) (s0 := tendrilref03_Field_S) tendrilref03_Field_ok lkΓ_nil))))))) (by decide +kernel) (by decide +kernel) (fun _ _ _ => rfl) tendrillaw03_PlaceTells_cuts (fun x => tendrillaw03_PlaceTells_run  x), bodied_of Try.func4 (by decide +kernel) (by decide +kernel)⟩

/-! tendril/tendrillaw03.PlaceApart -/
def tendrillaw03_PlaceApart (x : (Int × Int × Int × Int × Int) × (Int × Int × Int) × Int × Int × Int) : Option (Bool) :=
  (tendrillaw03_live (())).bind fun r0 =>
  bif !r0 then
    some (Bool.false)
  else
    (place_Field (((x.fst.1, x.fst.snd.1, x.fst.snd.snd.1, x.fst.snd.snd.snd.1, x.fst.snd.snd.snd.2), x.snd.fst.1, x.snd.fst.snd.1, x.snd.fst.snd.2))).bind fun r1 =>
    (place_Field (((x.fst.1, x.fst.snd.1, x.fst.snd.snd.1, x.fst.snd.snd.snd.1, x.fst.snd.snd.snd.2), x.snd.snd.1, x.snd.snd.snd.1, x.snd.snd.snd.2))).bind fun r2 =>
    (place_Node (((x.fst.1, x.fst.snd.1, x.fst.snd.snd.1, x.fst.snd.snd.snd.1, x.fst.snd.snd.snd.2), x.snd.fst.snd.1))).bind fun r3 =>
    (place_Edge (((x.fst.1, x.fst.snd.1, x.fst.snd.snd.1, x.fst.snd.snd.snd.1, x.fst.snd.snd.snd.2), x.snd.snd.snd.1))).bind fun r4 =>
    bif r1.2 == (0 : Int) then
      bif r2.2 == (0 : Int) then
        bif !(r1.1 == r2.1) == (x.snd.fst.1 == x.snd.snd.1 && (x.snd.fst.snd.1 == x.snd.snd.snd.1 && (x.snd.fst.snd.2 == x.snd.snd.snd.2 && Bool.true))) then
          some (Bool.false)
        else
          bif r1.2 == (0 : Int) then
            bif r3.2 == (0 : Int) then
              bif r1.1 == r3.1 then
                some (Bool.false)
              else
                bif r4.2 == (0 : Int) then
                  bif r1.1 == r4.1 then
                    some (Bool.false)
                  else
                    bif Decidable.decide (r1.1 < (2 : Int)) then
                      some (Bool.false)
                    else
                      bif r3.2 != (0 : Int) then
                        some (Bool.true)
                      else
                        bif r4.2 != (0 : Int) then
                          some (Bool.true)
                        else
                          bif r3.1 != r4.1 then
                            bif Decidable.decide ((2 : Int) ≤ r3.1) then
                              some (Decidable.decide ((2 : Int) ≤ r4.1))
                            else
                              some (Bool.false)
                          else
                            some (Bool.false)
                else
                  bif Decidable.decide (r1.1 < (2 : Int)) then
                    some (Bool.false)
                  else
                    bif r3.2 != (0 : Int) then
                      some (Bool.true)
                    else
                      bif r4.2 != (0 : Int) then
                        some (Bool.true)
                      else
                        bif r3.1 != r4.1 then
                          bif Decidable.decide ((2 : Int) ≤ r3.1) then
                            some (Decidable.decide ((2 : Int) ≤ r4.1))
                          else
                            some (Bool.false)
                        else
                          some (Bool.false)
            else
              bif r4.2 == (0 : Int) then
                bif r1.1 == r4.1 then
                  some (Bool.false)
                else
                  bif Decidable.decide (r1.1 < (2 : Int)) then
                    some (Bool.false)
                  else
                    bif r3.2 != (0 : Int) then
                      some (Bool.true)
                    else
                      bif r4.2 != (0 : Int) then
                        some (Bool.true)
                      else
                        bif r3.1 != r4.1 then
                          bif Decidable.decide ((2 : Int) ≤ r3.1) then
                            some (Decidable.decide ((2 : Int) ≤ r4.1))
                          else
                            some (Bool.false)
                        else
                          some (Bool.false)
              else
                bif Decidable.decide (r1.1 < (2 : Int)) then
                  some (Bool.false)
                else
                  bif r3.2 != (0 : Int) then
                    some (Bool.true)
                  else
                    bif r4.2 != (0 : Int) then
                      some (Bool.true)
                    else
                      bif r3.1 != r4.1 then
                        bif Decidable.decide ((2 : Int) ≤ r3.1) then
                          some (Decidable.decide ((2 : Int) ≤ r4.1))
                        else
                          some (Bool.false)
                      else
                        some (Bool.false)
          else
            bif r3.2 != (0 : Int) then
              some (Bool.true)
            else
              bif r4.2 != (0 : Int) then
                some (Bool.true)
              else
                bif r3.1 != r4.1 then
                  bif Decidable.decide ((2 : Int) ≤ r3.1) then
                    some (Decidable.decide ((2 : Int) ≤ r4.1))
                  else
                    some (Bool.false)
                else
                  some (Bool.false)
      else
        bif r1.2 == (0 : Int) then
          bif r3.2 == (0 : Int) then
            bif r1.1 == r3.1 then
              some (Bool.false)
            else
              bif r4.2 == (0 : Int) then
                bif r1.1 == r4.1 then
                  some (Bool.false)
                else
                  bif Decidable.decide (r1.1 < (2 : Int)) then
                    some (Bool.false)
                  else
                    bif r3.2 != (0 : Int) then
                      some (Bool.true)
                    else
                      bif r4.2 != (0 : Int) then
                        some (Bool.true)
                      else
                        bif r3.1 != r4.1 then
                          bif Decidable.decide ((2 : Int) ≤ r3.1) then
                            some (Decidable.decide ((2 : Int) ≤ r4.1))
                          else
                            some (Bool.false)
                        else
                          some (Bool.false)
              else
                bif Decidable.decide (r1.1 < (2 : Int)) then
                  some (Bool.false)
                else
                  bif r3.2 != (0 : Int) then
                    some (Bool.true)
                  else
                    bif r4.2 != (0 : Int) then
                      some (Bool.true)
                    else
                      bif r3.1 != r4.1 then
                        bif Decidable.decide ((2 : Int) ≤ r3.1) then
                          some (Decidable.decide ((2 : Int) ≤ r4.1))
                        else
                          some (Bool.false)
                      else
                        some (Bool.false)
          else
            bif r4.2 == (0 : Int) then
              bif r1.1 == r4.1 then
                some (Bool.false)
              else
                bif Decidable.decide (r1.1 < (2 : Int)) then
                  some (Bool.false)
                else
                  bif r3.2 != (0 : Int) then
                    some (Bool.true)
                  else
                    bif r4.2 != (0 : Int) then
                      some (Bool.true)
                    else
                      bif r3.1 != r4.1 then
                        bif Decidable.decide ((2 : Int) ≤ r3.1) then
                          some (Decidable.decide ((2 : Int) ≤ r4.1))
                        else
                          some (Bool.false)
                      else
                        some (Bool.false)
            else
              bif Decidable.decide (r1.1 < (2 : Int)) then
                some (Bool.false)
              else
                bif r3.2 != (0 : Int) then
                  some (Bool.true)
                else
                  bif r4.2 != (0 : Int) then
                    some (Bool.true)
                  else
                    bif r3.1 != r4.1 then
                      bif Decidable.decide ((2 : Int) ≤ r3.1) then
                        some (Decidable.decide ((2 : Int) ≤ r4.1))
                      else
                        some (Bool.false)
                    else
                      some (Bool.false)
        else
          bif r3.2 != (0 : Int) then
            some (Bool.true)
          else
            bif r4.2 != (0 : Int) then
              some (Bool.true)
            else
              bif r3.1 != r4.1 then
                bif Decidable.decide ((2 : Int) ≤ r3.1) then
                  some (Decidable.decide ((2 : Int) ≤ r4.1))
                else
                  some (Bool.false)
              else
                some (Bool.false)
    else
      bif r1.2 == (0 : Int) then
        bif r3.2 == (0 : Int) then
          bif r1.1 == r3.1 then
            some (Bool.false)
          else
            bif r4.2 == (0 : Int) then
              bif r1.1 == r4.1 then
                some (Bool.false)
              else
                bif Decidable.decide (r1.1 < (2 : Int)) then
                  some (Bool.false)
                else
                  bif r3.2 != (0 : Int) then
                    some (Bool.true)
                  else
                    bif r4.2 != (0 : Int) then
                      some (Bool.true)
                    else
                      bif r3.1 != r4.1 then
                        bif Decidable.decide ((2 : Int) ≤ r3.1) then
                          some (Decidable.decide ((2 : Int) ≤ r4.1))
                        else
                          some (Bool.false)
                      else
                        some (Bool.false)
            else
              bif Decidable.decide (r1.1 < (2 : Int)) then
                some (Bool.false)
              else
                bif r3.2 != (0 : Int) then
                  some (Bool.true)
                else
                  bif r4.2 != (0 : Int) then
                    some (Bool.true)
                  else
                    bif r3.1 != r4.1 then
                      bif Decidable.decide ((2 : Int) ≤ r3.1) then
                        some (Decidable.decide ((2 : Int) ≤ r4.1))
                      else
                        some (Bool.false)
                    else
                      some (Bool.false)
        else
          bif r4.2 == (0 : Int) then
            bif r1.1 == r4.1 then
              some (Bool.false)
            else
              bif Decidable.decide (r1.1 < (2 : Int)) then
                some (Bool.false)
              else
                bif r3.2 != (0 : Int) then
                  some (Bool.true)
                else
                  bif r4.2 != (0 : Int) then
                    some (Bool.true)
                  else
                    bif r3.1 != r4.1 then
                      bif Decidable.decide ((2 : Int) ≤ r3.1) then
                        some (Decidable.decide ((2 : Int) ≤ r4.1))
                      else
                        some (Bool.false)
                    else
                      some (Bool.false)
          else
            bif Decidable.decide (r1.1 < (2 : Int)) then
              some (Bool.false)
            else
              bif r3.2 != (0 : Int) then
                some (Bool.true)
              else
                bif r4.2 != (0 : Int) then
                  some (Bool.true)
                else
                  bif r3.1 != r4.1 then
                    bif Decidable.decide ((2 : Int) ≤ r3.1) then
                      some (Decidable.decide ((2 : Int) ≤ r4.1))
                    else
                      some (Bool.false)
                  else
                    some (Bool.false)
      else
        bif r3.2 != (0 : Int) then
          some (Bool.true)
        else
          bif r4.2 != (0 : Int) then
            some (Bool.true)
          else
            bif r3.1 != r4.1 then
              bif Decidable.decide ((2 : Int) ≤ r3.1) then
                some (Decidable.decide ((2 : Int) ≤ r4.1))
              else
                some (Bool.false)
            else
              some (Bool.false)
def tendrillaw03_PlaceApart_S : Sig := ⟨[⟨true, (.pair .int (.pair .int (.pair .int (.pair .int .int))))⟩, ⟨true, (.pair .int (.pair .int .int))⟩, ⟨true, (.pair .int (.pair .int .int))⟩], [⟨false, .bool⟩], false, tendrillaw03_PlaceApart⟩
set_option maxRecDepth 100000 in
theorem tendrillaw03_PlaceApart_run (x : Tup [⟨true, (.pair .int (.pair .int (.pair .int (.pair .int .int))))⟩, ⟨true, (.pair .int (.pair .int .int))⟩, ⟨true, (.pair .int (.pair .int .int))⟩]) : (pxFn Try.prog (lkΓ [(9, tendrillaw03_live_S), (12, place_Field_S), (13, place_Node_S), (15, place_Edge_S)]) [] Try.f5 (bodyOf Try.f5) false [⟨false, .bool⟩] (encTup [⟨true, (.pair .int (.pair .int (.pair .int (.pair .int .int))))⟩, ⟨true, (.pair .int (.pair .int .int))⟩, ⟨true, (.pair .int (.pair .int .int))⟩] x)).run (fun _ _ _ => none) = tendrillaw03_PlaceApart x := by kernel_rfl
theorem tendrillaw03_PlaceApart_cuts : ∀ p ∈ cuts Try.prog (lkΓ [(9, tendrillaw03_live_S), (12, place_Field_S), (13, place_Node_S), (15, place_Edge_S)]) Try.f5.ntmps [] (bodyOf Try.f5) (κ0 Try.prog Try.f5 false [⟨false, .bool⟩]), CutOk (fun _ _ _ _ => none) p := cutsNil (by kernel_rfl)
theorem tendrillaw03_PlaceApart_ok : SigOk Try.prog 5 tendrillaw03_PlaceApart_S ∧ Bodied Try.prog 5 :=
  ⟨fn_sound (s := tendrillaw03_PlaceApart_S) (T := []) (Λ := fun _ _ _ _ => none) 0 Try.func5 (c := bodyOf Try.f5) (by kernel_rfl) (by kernel_rfl) (lkΓ_cons (g := 9) (s0 := tendrillaw03_live_S) tendrillaw03_live_ok (lkΓ_cons (g := 12) (s0 := place_Field_S) place_Field_ok (lkΓ_cons (g := 13) (s0 := place_Node_S) place_Node_ok (lkΓ_cons (g := 15) (s0 := place_Edge_S) place_Edge_ok lkΓ_nil)))) (by decide +kernel) (by decide +kernel) (fun _ _ _ => rfl) tendrillaw03_PlaceApart_cuts (fun x => tendrillaw03_PlaceApart_run  x), bodied_of Try.func5 (by decide +kernel) (by decide +kernel)⟩

/-! tendril/mem.New -/
def mem_New (x : Int) : Option (List Int × Int) :=
  bif Decidable.decide (x < (0 : Int)) then
    some (([], (1 : Int)))
  else
    bif Decidable.decide ((4096 : Int) < x) then
      some (([], (1 : Int)))
    else
      bif Decidable.decide ((0 : Int) ≤ x) then
        bif Decidable.decide (x ≤ (1000000 : Int)) then
          some ((List.replicate (Int.toNat x) (0 : Int), (0 : Int)))
        else
          none
      else
        none
def mem_New_S : Sig := ⟨[⟨false, .int⟩], [⟨false, (.sl .int)⟩, ⟨false, .int⟩], true, mem_New⟩
set_option maxRecDepth 100000 in
theorem mem_New_run (x : Tup [⟨false, .int⟩]) : (pxFn Try.prog (lkΓ []) [] Try.f27 (bodyOf Try.f27) true [⟨false, (.sl .int)⟩, ⟨false, .int⟩] (encTup [⟨false, .int⟩] x)).run (fun _ _ _ => none) = mem_New x := by kernel_rfl
theorem mem_New_cuts : ∀ p ∈ cuts Try.prog (lkΓ []) Try.f27.ntmps [] (bodyOf Try.f27) (κ0 Try.prog Try.f27 true [⟨false, (.sl .int)⟩, ⟨false, .int⟩]), CutOk (fun _ _ _ _ => none) p := cutsNil (by kernel_rfl)
theorem mem_New_ok : SigOk Try.prog 27 mem_New_S ∧ Bodied Try.prog 27 :=
  ⟨fn_sound (s := mem_New_S) (T := []) (Λ := fun _ _ _ _ => none) 0 Try.func27 (c := bodyOf Try.f27) (by kernel_rfl) (by kernel_rfl) lkΓ_nil (by decide +kernel) (by decide +kernel) (fun _ _ _ => rfl) mem_New_cuts (fun x => mem_New_run  x), bodied_of Try.func27 (by decide +kernel) (by decide +kernel)⟩

/-! tendril/place.New -/
def place_New (x : Int × Int × Int × Int × Int) : Option (List Int × Int) :=
  (place_Check ((x.1, x.snd.1, x.snd.snd.1, x.snd.snd.snd.1, x.snd.snd.snd.2))).bind fun r0 =>
  bif r0 != (0 : Int) then
    some (([], r0))
  else
    (place_Size ((x.1, x.snd.1, x.snd.snd.1, x.snd.snd.snd.1, x.snd.snd.snd.2))).bind fun r1 =>
    (mem_New (r1)).bind fun r2 =>
    bif r2.2 != (0 : Int) then
      some (([], r2.2))
    else
      bif Decidable.decide ((0 : Int) < (↑(List.length r2.1) : Int)) then
        bif Decidable.decide ((1 : Int) < (↑(List.set r2.1 (Int.toNat (0 : Int)) (1 : Int)).length : Int)) then
          some (((List.set r2.1 (Int.toNat (0 : Int)) (1 : Int)).set (Int.toNat (1 : Int)) (1 : Int), (0 : Int)))
        else
          none
      else
        none
def place_New_S : Sig := ⟨[⟨true, (.pair .int (.pair .int (.pair .int (.pair .int .int))))⟩], [⟨false, (.sl .int)⟩, ⟨false, .int⟩], true, place_New⟩
set_option maxRecDepth 100000 in
theorem place_New_run (x : Tup [⟨true, (.pair .int (.pair .int (.pair .int (.pair .int .int))))⟩]) : (pxFn Try.prog (lkΓ [(10, place_Check_S), (11, place_Size_S), (27, mem_New_S)]) [] Try.f18 (bodyOf Try.f18) true [⟨false, (.sl .int)⟩, ⟨false, .int⟩] (encTup [⟨true, (.pair .int (.pair .int (.pair .int (.pair .int .int))))⟩] x)).run (fun _ _ _ => none) = place_New x := by kernel_rfl
theorem place_New_cuts : ∀ p ∈ cuts Try.prog (lkΓ [(10, place_Check_S), (11, place_Size_S), (27, mem_New_S)]) Try.f18.ntmps [] (bodyOf Try.f18) (κ0 Try.prog Try.f18 true [⟨false, (.sl .int)⟩, ⟨false, .int⟩]), CutOk (fun _ _ _ _ => none) p := cutsNil (by kernel_rfl)
theorem place_New_ok : SigOk Try.prog 18 place_New_S ∧ Bodied Try.prog 18 :=
  ⟨fn_sound (s := place_New_S) (T := []) (Λ := fun _ _ _ _ => none) 0 Try.func18 (c := bodyOf Try.f18) (by kernel_rfl) (by kernel_rfl) (lkΓ_cons (g := 10) (s0 := place_Check_S) place_Check_ok (lkΓ_cons (g := 11) (s0 := place_Size_S) place_Size_ok (lkΓ_cons (g := 27) (s0 := mem_New_S) mem_New_ok lkΓ_nil))) (by decide +kernel) (by decide +kernel) (fun _ _ _ => rfl) place_New_cuts (fun x => place_New_run  x), bodied_of Try.func18 (by decide +kernel) (by decide +kernel)⟩

/-! tendril/tendrilref03.Size -/
def tendrilref03_Size (x : Int × Int × Int × Int × Int) : Option (Int) :=
  (tendrilref03_Check ((x.1, x.snd.1, x.snd.snd.1, x.snd.snd.snd.1, x.snd.snd.snd.2))).bind fun r0 =>
  bif r0 != (0 : Int) then
    some ((0 : Int))
  else
    some (Go.RowKit.wrap64 (Go.RowKit.wrap64 (Go.RowKit.wrap64 (Go.RowKit.wrap64 (Go.RowKit.wrap64 ((2 : Int) + x.snd.snd.snd.1) + x.snd.snd.snd.2) + Go.RowKit.wrap64 ((4 : Int) * x.1)) + Go.RowKit.wrap64 ((5 : Int) * x.snd.1)) + Go.RowKit.wrap64 ((3 : Int) * x.snd.snd.1)))
def tendrilref03_Size_S : Sig := ⟨[⟨true, (.pair .int (.pair .int (.pair .int (.pair .int .int))))⟩], [⟨false, .int⟩], false, tendrilref03_Size⟩
set_option maxRecDepth 100000 in
theorem tendrilref03_Size_run (x : Tup [⟨true, (.pair .int (.pair .int (.pair .int (.pair .int .int))))⟩]) : (pxFn Try.prog (lkΓ [(20, tendrilref03_Check_S)]) [] Try.f21 (bodyOf Try.f21) false [⟨false, .int⟩] (encTup [⟨true, (.pair .int (.pair .int (.pair .int (.pair .int .int))))⟩] x)).run (fun _ _ _ => none) = tendrilref03_Size x := by kernel_rfl
theorem tendrilref03_Size_cuts : ∀ p ∈ cuts Try.prog (lkΓ [(20, tendrilref03_Check_S)]) Try.f21.ntmps [] (bodyOf Try.f21) (κ0 Try.prog Try.f21 false [⟨false, .int⟩]), CutOk (fun _ _ _ _ => none) p := cutsNil (by kernel_rfl)
theorem tendrilref03_Size_ok : SigOk Try.prog 21 tendrilref03_Size_S ∧ Bodied Try.prog 21 :=
  ⟨fn_sound (s := tendrilref03_Size_S) (T := []) (Λ := fun _ _ _ _ => none) 0 Try.func21 (c := bodyOf Try.f21) (by kernel_rfl) (by kernel_rfl) (lkΓ_cons (g := 20) (s0 := tendrilref03_Check_S) tendrilref03_Check_ok lkΓ_nil) (by decide +kernel) (by decide +kernel) (fun _ _ _ => rfl) tendrilref03_Size_cuts (fun x => tendrilref03_Size_run  x), bodied_of Try.func21 (by decide +kernel) (by decide +kernel)⟩

/-! tendril/tendrilref03.New -/
def tendrilref03_New (x : Int × Int × Int × Int × Int) : Option (List Int × Int) :=
  (tendrilref03_Check ((x.1, x.snd.1, x.snd.snd.1, x.snd.snd.snd.1, x.snd.snd.snd.2))).bind fun r0 =>
  bif r0 != (0 : Int) then
    some (([], r0))
  else
    (tendrilref03_Size ((x.1, x.snd.1, x.snd.snd.1, x.snd.snd.snd.1, x.snd.snd.snd.2))).bind fun r1 =>
    bif Decidable.decide ((0 : Int) ≤ r1) then
      bif Decidable.decide (r1 ≤ (1000000 : Int)) then
        bif Decidable.decide ((0 : Int) < (↑(List.replicate (Int.toNat r1) (0 : Int)).length : Int)) then
          bif Decidable.decide ((1 : Int) < (↑((List.replicate (Int.toNat r1) (0 : Int)).set (Int.toNat (0 : Int)) (1 : Int)).length : Int)) then
            some ((((List.replicate (Int.toNat r1) (0 : Int)).set (Int.toNat (0 : Int)) (1 : Int)).set (Int.toNat (1 : Int)) (1 : Int), (0 : Int)))
          else
            none
        else
          none
      else
        none
    else
      none
def tendrilref03_New_S : Sig := ⟨[⟨true, (.pair .int (.pair .int (.pair .int (.pair .int .int))))⟩], [⟨false, (.sl .int)⟩, ⟨false, .int⟩], true, tendrilref03_New⟩
set_option maxRecDepth 100000 in
theorem tendrilref03_New_run (x : Tup [⟨true, (.pair .int (.pair .int (.pair .int (.pair .int .int))))⟩]) : (pxFn Try.prog (lkΓ [(20, tendrilref03_Check_S), (21, tendrilref03_Size_S)]) [] Try.f19 (bodyOf Try.f19) true [⟨false, (.sl .int)⟩, ⟨false, .int⟩] (encTup [⟨true, (.pair .int (.pair .int (.pair .int (.pair .int .int))))⟩] x)).run (fun _ _ _ => none) = tendrilref03_New x := by kernel_rfl
theorem tendrilref03_New_cuts : ∀ p ∈ cuts Try.prog (lkΓ [(20, tendrilref03_Check_S), (21, tendrilref03_Size_S)]) Try.f19.ntmps [] (bodyOf Try.f19) (κ0 Try.prog Try.f19 true [⟨false, (.sl .int)⟩, ⟨false, .int⟩]), CutOk (fun _ _ _ _ => none) p := cutsNil (by kernel_rfl)
theorem tendrilref03_New_ok : SigOk Try.prog 19 tendrilref03_New_S ∧ Bodied Try.prog 19 :=
  ⟨fn_sound (s := tendrilref03_New_S) (T := []) (Λ := fun _ _ _ _ => none) 0 Try.func19 (c := bodyOf Try.f19) (by kernel_rfl) (by kernel_rfl) (lkΓ_cons (g := 20) (s0 := tendrilref03_Check_S) tendrilref03_Check_ok (lkΓ_cons (g := 21) (s0 := tendrilref03_Size_S) tendrilref03_Size_ok lkΓ_nil)) (by decide +kernel) (by decide +kernel) (fun _ _ _ => rfl) tendrilref03_New_cuts (fun x => tendrilref03_New_run  x), bodied_of Try.func19 (by decide +kernel) (by decide +kernel)⟩

/-! tendril/tendrilref02.Same -/
def tendrilref02_Same_L10 : Nat → (List Int) → (List Int) → (Int) → (Int) → Option (Bool)
  | 0, _, _, _, _ => none
  | k + 1, p0, p1, p2, p3 =>
    bif Decidable.decide (p3 < p2) then
      bif Decidable.decide ((0 : Int) ≤ p3) then
        bif Decidable.decide (p3 < (↑p0.length : Int)) then
          bif Decidable.decide ((0 : Int) ≤ p3) then
            bif Decidable.decide (p3 < (↑p1.length : Int)) then
              bif p0.getD p3.toNat (0 : Int) != p1.getD p3.toNat (0 : Int) then
                some (Bool.false)
              else
                tendrilref02_Same_L10 k (p0) (p1) (p2) (Go.RowKit.wrap64 (p3 + (1 : Int)))
            else
              none
          else
            none
        else
          none
      else
        none
    else
      some (Bool.true)
def tendrilref02_Same_P10v0 (k : Nat) (vs : List SV) (bs : List Blk) : Option (Bool) := match vs, bs with
  | [.val (.one (.sl .int p0)), .val (.one (.sl .int p1)), .val (.one (.int .i64 p2)), .val (.one (.int .i64 p3))], [] => tendrilref02_Same_L10 k p0 p1 p2 p3
  | _, _ => none
def tendrilref02_Same_P10 (k : Nat) (vs : List SV) (bs : List Blk) : Option (Bool) := tendrilref02_Same_P10v0 k vs bs
def tendrilref02_Same_Λ (k L : Nat) (vs : List SV) (bs : List Blk) : Option (Bool) := match Nat.beq L 10 with | true => tendrilref02_Same_P10 k vs bs | false => none
def tendrilref02_Same_K (K : Nat) (x : List Int × List Int) : Option (Bool) :=
  bif (↑(List.length x.1) : Int) != (↑(List.length x.2) : Int) then
    some (Bool.false)
  else
    tendrilref02_Same_L10 K (x.1) (x.2) ((↑(List.length x.1) : Int)) ((0 : Int))
def tendrilref02_Same (x : (List Int) × (List Int)) : Option (Bool) := tendrilref02_Same_K 2000000 x
def tendrilref02_Same_S : Sig := ⟨[⟨false, (.sl .int)⟩, ⟨false, (.sl .int)⟩], [⟨false, .bool⟩], false, tendrilref02_Same⟩
noncomputable def tendrilref02_Same_C : List (Cut (Tup [⟨false, .bool⟩])) := cuts Try.prog (lkΓ []) Try.f22.ntmps [(10, [0, 1, 12, 13])] (bodyOf Try.f22) (κ0 Try.prog Try.f22 false [⟨false, .bool⟩])
set_option maxRecDepth 100000 in
theorem tendrilref02_Same_c10 (k : Nat) (p0 : List Int) (p1 : List Int) (p2 : Int) (p3 : Int) : ((nthC tendrilref02_Same_C 0).g (mkSt [0, 1, 12, 13] [.val (.one (.sl .int p0)), .val (.one (.sl .int p1)), .val (.one (.int .i64 p2)), .val (.one (.int .i64 p3))] [])).run (tendrilref02_Same_Λ k) = tendrilref02_Same_L10 (k + 1) p0 p1 p2 p3 := by kernel_rfl
theorem tendrilref02_Same_e10 (k : Nat) (vs : List SV) (bs : List Blk) (r : Bool) (h : tendrilref02_Same_P10v0 (k + 1) vs bs = some r) : ((nthC tendrilref02_Same_C 0).g (mkSt [0, 1, 12, 13] vs bs)).run (tendrilref02_Same_Λ k) = some r := by
  unfold tendrilref02_Same_P10v0 at h
  split at h
  · exact (tendrilref02_Same_c10 k _ _ _ _).trans h
  · cases h
theorem tendrilref02_Same_d10 : CutOk tendrilref02_Same_Λ (nthC tendrilref02_Same_C 0) := by
  refine cutOk_of (L := 10) (live := [0, 1, 12, 13]) (by kernel_rfl) (by kernel_rfl) fun k vs bs r h => ?_
  change tendrilref02_Same_P10 (k + 1) vs bs = some r at h
  exact tendrilref02_Same_e10 k vs bs r h
theorem tendrilref02_Same_cuts : ∀ p ∈ cuts Try.prog (lkΓ []) Try.f22.ntmps [(10, [0, 1, 12, 13])] (bodyOf Try.f22) (κ0 Try.prog Try.f22 false [⟨false, .bool⟩]), CutOk tendrilref02_Same_Λ p := cutsOk (l := tendrilref02_Same_C) (n := 1) (by kernel_rfl) fun
  | 0, _ => tendrilref02_Same_d10
  | k + 1, h => absurd h (by omega)
theorem tendrilref02_Same_z10 (vs : List SV) (bs : List Blk) : tendrilref02_Same_P10v0 0 vs bs = none := by
  unfold tendrilref02_Same_P10v0; split
  · first | rfl | (unfold tendrilref02_Same_L10; rfl)
  · rfl
theorem tendrilref02_Same_Λ0 (L : Nat) (vs : List SV) (bs : List Blk) : tendrilref02_Same_Λ 0 L vs bs = none := by
  unfold tendrilref02_Same_Λ
  split
  · unfold tendrilref02_Same_P10
    simp only [tendrilref02_Same_z10]
  rfl
set_option maxRecDepth 100000 in
theorem tendrilref02_Same_run (K : Nat) (x : Tup [⟨false, (.sl .int)⟩, ⟨false, (.sl .int)⟩]) : (pxFn Try.prog (lkΓ []) [(10, [0, 1, 12, 13])] Try.f22 (bodyOf Try.f22) false [⟨false, .bool⟩] (encTup [⟨false, (.sl .int)⟩, ⟨false, (.sl .int)⟩] x)).run (tendrilref02_Same_Λ K) = tendrilref02_Same_K K x := by kernel_rfl
theorem tendrilref02_Same_ok : SigOk Try.prog 22 tendrilref02_Same_S ∧ Bodied Try.prog 22 :=
  ⟨fn_sound (s := tendrilref02_Same_S) (T := [(10, [0, 1, 12, 13])]) (Λ := tendrilref02_Same_Λ) 2000000 Try.func22 (c := bodyOf Try.f22) (by kernel_rfl) (by kernel_rfl) lkΓ_nil (by decide +kernel) (by decide +kernel) tendrilref02_Same_Λ0 tendrilref02_Same_cuts (fun x => tendrilref02_Same_run 2000000 x), bodied_of Try.func22 (by decide +kernel) (by decide +kernel)⟩

/-! tendril/tendrillaw03.PlaceMakes -/
def tendrillaw03_PlaceMakes (x : Int × Int × Int × Int × Int) : Option (Bool) :=
  (tendrillaw03_live (())).bind fun r0 =>
  bif !r0 then
    some (Bool.false)
  else
    (place_New ((x.1, x.snd.1, x.snd.snd.1, x.snd.snd.snd.1, x.snd.snd.snd.2))).bind fun r1 =>
    (tendrilref03_New ((x.1, x.snd.1, x.snd.snd.1, x.snd.snd.snd.1, x.snd.snd.snd.2))).bind fun r2 =>
    (place_Check ((x.1, x.snd.1, x.snd.snd.1, x.snd.snd.snd.1, x.snd.snd.snd.2))).bind fun r3 =>
    (tendrilref03_Check ((x.1, x.snd.1, x.snd.snd.1, x.snd.snd.snd.1, x.snd.snd.snd.2))).bind fun r4 =>
    bif r3 == r4 then
      (place_Size ((x.1, x.snd.1, x.snd.snd.1, x.snd.snd.snd.1, x.snd.snd.snd.2))).bind fun r5 =>
      (tendrilref03_Size ((x.1, x.snd.1, x.snd.snd.1, x.snd.snd.snd.1, x.snd.snd.snd.2))).bind fun r6 =>
      bif r5 == r6 then
        (tendrilref02_Same ((r1.1, r2.1))).bind fun r7 =>
        bif r7 then
          some (r1.2 == r2.2)
        else
          some (Bool.false)
      else
        some (Bool.false)
    else
      some (Bool.false)
def tendrillaw03_PlaceMakes_S : Sig := ⟨[⟨true, (.pair .int (.pair .int (.pair .int (.pair .int .int))))⟩], [⟨false, .bool⟩], false, tendrillaw03_PlaceMakes⟩
set_option maxRecDepth 100000 in
theorem tendrillaw03_PlaceMakes_run (x : Tup [⟨true, (.pair .int (.pair .int (.pair .int (.pair .int .int))))⟩]) : (pxFn Try.prog (lkΓ [(9, tendrillaw03_live_S), (10, place_Check_S), (11, place_Size_S), (18, place_New_S), (19, tendrilref03_New_S), (20, tendrilref03_Check_S), (21, tendrilref03_Size_S), (22, tendrilref02_Same_S)]) [] Try.f6 (bodyOf Try.f6) false [⟨false, .bool⟩] (encTup [⟨true, (.pair .int (.pair .int (.pair .int (.pair .int .int))))⟩] x)).run (fun _ _ _ => none) = tendrillaw03_PlaceMakes x := by kernel_rfl
theorem tendrillaw03_PlaceMakes_cuts : ∀ p ∈ cuts Try.prog (lkΓ [(9, tendrillaw03_live_S), (10, place_Check_S), (11, place_Size_S), (18, place_New_S), (19, tendrilref03_New_S), (20, tendrilref03_Check_S), (21, tendrilref03_Size_S), (22, tendrilref02_Same_S)]) Try.f6.ntmps [] (bodyOf Try.f6) (κ0 Try.prog Try.f6 false [⟨false, .bool⟩]), CutOk (fun _ _ _ _ => none) p := cutsNil (by kernel_rfl)
theorem tendrillaw03_PlaceMakes_ok : SigOk Try.prog 6 tendrillaw03_PlaceMakes_S ∧ Bodied Try.prog 6 :=
  ⟨fn_sound (s := tendrillaw03_PlaceMakes_S) (T := []) (Λ := fun _ _ _ _ => none) 0 Try.func6 (c := bodyOf Try.f6) (by kernel_rfl) (by kernel_rfl) (lkΓ_cons (g := 9) (s0 := tendrillaw03_live_S) tendrillaw03_live_ok (lkΓ_cons (g := 10) (s0 := place_Check_S) place_Check_ok (lkΓ_cons (g := 11) (s0 := place_Size_S) place_Size_ok (lkΓ_cons (g := 18) (s0 := place_New_S) place_New_ok (lkΓ_cons (g := 19) (s0 := tendrilref03_New_S) tendrilref03_New_ok (lkΓ_cons (g := 20) (s0 := tendrilref03_Check_S) tendrilref03_Check_ok (lkΓ_cons (g := 21) (s0 := tendrilref03_Size_S) tendrilref03_Size_ok (lkΓ_cons (g := 22) (s0 := tendrilref02_Same_S) tendrilref02_Same_ok lkΓ_nil)))))))) (by decide +kernel) (by decide +kernel) (fun _ _ _ => rfl) tendrillaw03_PlaceMakes_cuts (fun x => tendrillaw03_PlaceMakes_run  x), bodied_of Try.func6 (by decide +kernel) (by decide +kernel)⟩

/-! tendril/place.Where -/
def place_Where (x : (Int × Int × Int × Int × Int) × Int) : Option (Int × Int × Int × Int) :=
  (place_kinds ((x.fst.1, x.fst.snd.1, x.fst.snd.snd.1, x.fst.snd.snd.snd.1, x.fst.snd.snd.snd.2))).bind fun r0 =>
  bif Decidable.decide (x.2 < (0 : Int)) then
    some (((0 : Int), (0 : Int), (0 : Int), (1 : Int)))
  else
    (place_Size ((x.fst.1, x.fst.snd.1, x.fst.snd.snd.1, x.fst.snd.snd.snd.1, x.fst.snd.snd.snd.2))).bind fun r1 =>
    bif Decidable.decide (r1 ≤ x.2) then
      some (((0 : Int), (0 : Int), (0 : Int), (1 : Int)))
    else
      bif Decidable.decide (x.2 < (2 : Int)) then
        some (((0 : Int), Go.RowKit.wrap64 (x.2 + (1 : Int)), (0 : Int), (0 : Int)))
      else
        bif Decidable.decide (x.2 < Go.RowKit.wrap64 ((2 : Int) + x.fst.snd.snd.snd.1)) then
          some (((4 : Int), Go.RowKit.wrap64 (x.2 - (1 : Int)), (0 : Int), (0 : Int)))
        else
          bif Decidable.decide (x.2 < r0.snd.fst.snd.2) then
            some (((5 : Int), Go.RowKit.wrap64 (Go.RowKit.wrap64 (x.2 - (1 : Int)) - x.fst.snd.snd.snd.1), (0 : Int), (0 : Int)))
          else
            bif Decidable.decide (r0.snd.snd.fst.snd.2 ≤ x.2) then
              bif Decidable.decide (r0.snd.snd.snd.fst.snd.2 ≤ x.2) then
                bif Decidable.decide (r0.snd.snd.snd.snd.snd.2 ≤ x.2) then
                  none
                else
                  bif Decidable.decide (r0.snd.snd.snd.fst.snd.1 = (0 : Int)) then
                    none
                  else
                    bif Decidable.decide (r0.snd.snd.snd.fst.snd.1 = (0 : Int)) then
                      none
                    else
                      some ((Go.RowKit.wrap64 (Go.RowKit.wrap64 ((1 : Int) + (1 : Int)) + (1 : Int)), Go.RowKit.wrap64 ((Go.RowKit.wrap64 (x.2 - r0.snd.snd.snd.fst.snd.2)).tdiv r0.snd.snd.snd.fst.snd.1), (Go.RowKit.wrap64 (x.2 - r0.snd.snd.snd.fst.snd.2)).tmod r0.snd.snd.snd.fst.snd.1, (0 : Int)))
              else
                bif Decidable.decide (r0.snd.snd.fst.snd.1 = (0 : Int)) then
                  none
                else
                  bif Decidable.decide (r0.snd.snd.fst.snd.1 = (0 : Int)) then
                    none
                  else
                    some ((Go.RowKit.wrap64 ((1 : Int) + (1 : Int)), Go.RowKit.wrap64 ((Go.RowKit.wrap64 (x.2 - r0.snd.snd.fst.snd.2)).tdiv r0.snd.snd.fst.snd.1), (Go.RowKit.wrap64 (x.2 - r0.snd.snd.fst.snd.2)).tmod r0.snd.snd.fst.snd.1, (0 : Int)))
            else
              bif Decidable.decide (r0.snd.fst.snd.1 = (0 : Int)) then
                none
              else
                bif Decidable.decide (r0.snd.fst.snd.1 = (0 : Int)) then
                  none
                else
                  some (((1 : Int), Go.RowKit.wrap64 ((Go.RowKit.wrap64 (x.2 - r0.snd.fst.snd.2)).tdiv r0.snd.fst.snd.1), (Go.RowKit.wrap64 (x.2 - r0.snd.fst.snd.2)).tmod r0.snd.fst.snd.1, (0 : Int)))
def place_Where_S : Sig := ⟨[⟨true, (.pair .int (.pair .int (.pair .int (.pair .int .int))))⟩, ⟨false, .int⟩], [⟨false, .int⟩, ⟨false, .int⟩, ⟨false, .int⟩, ⟨false, .int⟩], false, place_Where⟩
set_option maxRecDepth 100000 in
theorem place_Where_run (x : Tup [⟨true, (.pair .int (.pair .int (.pair .int (.pair .int .int))))⟩, ⟨false, .int⟩]) : (pxFn Try.prog (lkΓ [(11, place_Size_S), (25, place_kinds_S)]) [] Try.f23 (bodyOf Try.f23) false [⟨false, .int⟩, ⟨false, .int⟩, ⟨false, .int⟩, ⟨false, .int⟩] (encTup [⟨true, (.pair .int (.pair .int (.pair .int (.pair .int .int))))⟩, ⟨false, .int⟩] x)).run (fun _ _ _ => none) = place_Where x := by kernel_rfl
theorem place_Where_cuts : ∀ p ∈ cuts Try.prog (lkΓ [(11, place_Size_S), (25, place_kinds_S)]) Try.f23.ntmps [] (bodyOf Try.f23) (κ0 Try.prog Try.f23 false [⟨false, .int⟩, ⟨false, .int⟩, ⟨false, .int⟩, ⟨false, .int⟩]), CutOk (fun _ _ _ _ => none) p := cutsNil (by kernel_rfl)
theorem place_Where_ok : SigOk Try.prog 23 place_Where_S ∧ Bodied Try.prog 23 :=
  ⟨fn_sound (s := place_Where_S) (T := []) (Λ := fun _ _ _ _ => none) 0 Try.func23 (c := bodyOf Try.f23) (by kernel_rfl) (by kernel_rfl) (lkΓ_cons (g := 11) (s0 := place_Size_S) place_Size_ok (lkΓ_cons (g := 25) (s0 := place_kinds_S) place_kinds_ok lkΓ_nil)) (by decide +kernel) (by decide +kernel) (fun _ _ _ => rfl) place_Where_cuts (fun x => place_Where_run  x), bodied_of Try.func23 (by decide +kernel) (by decide +kernel)⟩

/-! tendril/tendrilref03.Where -/
mutual
def tendrilref03_Where_L14 : Nat → (Int) → (Int) → (Int) → (Int) → (Int) → (Int) → (Int) → Option (Int × Int × Int × Int)
  | 0, _, _, _, _, _, _, _ => none
  | k + 1, p0, p1, p2, p3, p4, p5, p6 =>
    bif Decidable.decide (p1 < (65 : Int)) then
      (tendrilref03_Node (((p2, p3, p4, p5, p6), p1))).bind fun r2 =>
      bif r2.2 == (0 : Int) then
        bif r2.1 == p0 then
          some (((4 : Int), p1, (0 : Int), (0 : Int)))
        else
          (tendrilref03_Edge (((p2, p3, p4, p5, p6), p1))).bind fun r3 =>
          bif r3.2 == (0 : Int) then
            bif r3.1 == p0 then
              some (((5 : Int), p1, (0 : Int), (0 : Int)))
            else
              tendrilref03_Where_L14 k (p0) (Go.RowKit.wrap64 (p1 + (1 : Int))) (p2) (p3) (p4) (p5) (p6)
          else
            tendrilref03_Where_L14 k (p0) (Go.RowKit.wrap64 (p1 + (1 : Int))) (p2) (p3) (p4) (p5) (p6)
      else
        (tendrilref03_Edge (((p2, p3, p4, p5, p6), p1))).bind fun r4 =>
        bif r4.2 == (0 : Int) then
          bif r4.1 == p0 then
            some (((5 : Int), p1, (0 : Int), (0 : Int)))
          else
            tendrilref03_Where_L14 k (p0) (Go.RowKit.wrap64 (p1 + (1 : Int))) (p2) (p3) (p4) (p5) (p6)
        else
          tendrilref03_Where_L14 k (p0) (Go.RowKit.wrap64 (p1 + (1 : Int))) (p2) (p3) (p4) (p5) (p6)
    else
      tendrilref03_Where_L34 k (p0) ((1 : Int)) (p2) (p3) (p4) (p5) (p6)
def tendrilref03_Where_L34 : Nat → (Int) → (Int) → (Int) → (Int) → (Int) → (Int) → (Int) → Option (Int × Int × Int × Int)
  | 0, _, _, _, _, _, _, _ => none
  | k + 1, p0, p1, p2, p3, p4, p5, p6 =>
    bif Decidable.decide (p1 ≤ (3 : Int)) then
      tendrilref03_Where_L40 k (p0) (p1) ((0 : Int)) (p2) (p3) (p4) (p5) (p6)
    else
      some (((0 : Int), (0 : Int), (0 : Int), (1 : Int)))
def tendrilref03_Where_L40 : Nat → (Int) → (Int) → (Int) → (Int) → (Int) → (Int) → (Int) → (Int) → Option (Int × Int × Int × Int)
  | 0, _, _, _, _, _, _, _, _ => none
  | k + 1, p0, p1, p2, p3, p4, p5, p6, p7 =>
    bif Decidable.decide (p2 < (64 : Int)) then
      tendrilref03_Where_L46 k (p0) (p1) (p2) (p2) ((0 : Int)) (p3) (p4) (p5) (p6) (p7)
    else
      tendrilref03_Where_L34 k (p0) (Go.RowKit.wrap64 (p1 + (1 : Int))) (p3) (p4) (p5) (p6) (p7)
def tendrilref03_Where_L46 : Nat → (Int) → (Int) → (Int) → (Int) → (Int) → (Int) → (Int) → (Int) → (Int) → (Int) → Option (Int × Int × Int × Int)
  | 0, _, _, _, _, _, _, _, _, _, _ => none
  | k + 1, p0, p1, p2, p3, p4, p5, p6, p7, p8, p9 =>
    bif Decidable.decide (p4 < (5 : Int)) then
      (tendrilref03_Field (((p5, p6, p7, p8, p9), p1, p2, p4))).bind fun r5 =>
      bif r5.2 == (0 : Int) then
        bif r5.1 == p0 then
          some ((p1, p2, p4, (0 : Int)))
        else
          tendrilref03_Where_L46 k (p0) (p1) (p2) (p3) (Go.RowKit.wrap64 (p4 + (1 : Int))) (p5) (p6) (p7) (p8) (p9)
      else
        tendrilref03_Where_L46 k (p0) (p1) (p2) (p3) (Go.RowKit.wrap64 (p4 + (1 : Int))) (p5) (p6) (p7) (p8) (p9)
    else
      tendrilref03_Where_L40 k (p0) (p1) (Go.RowKit.wrap64 (p3 + (1 : Int))) (p5) (p6) (p7) (p8) (p9)
end
def tendrilref03_Where_P14v0 (k : Nat) (vs : List SV) (bs : List Blk) : Option (Int × Int × Int × Int) := match vs, bs with
  | [.val (.one (.int .i64 p0)), .val (.one (.ptr 0 0)), .val (.one (.int .i64 p1))], [.box [(.int .i64 p2), (.int .i64 p3), (.int .i64 p4), (.int .i64 p5), (.int .i64 p6)]] => tendrilref03_Where_L14 k p0 p1 p2 p3 p4 p5 p6
  | _, _ => none
def tendrilref03_Where_P34v0 (k : Nat) (vs : List SV) (bs : List Blk) : Option (Int × Int × Int × Int) := match vs, bs with
  | [.val (.one (.int .i64 p0)), .val (.one (.ptr 0 0)), .val (.one (.int .i64 p1))], [.box [(.int .i64 p2), (.int .i64 p3), (.int .i64 p4), (.int .i64 p5), (.int .i64 p6)]] => tendrilref03_Where_L34 k p0 p1 p2 p3 p4 p5 p6
  | _, _ => none
def tendrilref03_Where_P40v0 (k : Nat) (vs : List SV) (bs : List Blk) : Option (Int × Int × Int × Int) := match vs, bs with
  | [.val (.one (.int .i64 p0)), .val (.one (.ptr 0 0)), .val (.one (.int .i64 p1)), .val (.one (.int .i64 p2))], [.box [(.int .i64 p3), (.int .i64 p4), (.int .i64 p5), (.int .i64 p6), (.int .i64 p7)]] => tendrilref03_Where_L40 k p0 p1 p2 p3 p4 p5 p6 p7
  | _, _ => none
def tendrilref03_Where_P46v0 (k : Nat) (vs : List SV) (bs : List Blk) : Option (Int × Int × Int × Int) := match vs, bs with
  | [.val (.one (.int .i64 p0)), .val (.one (.ptr 0 0)), .val (.one (.int .i64 p1)), .val (.one (.int .i64 p2)), .val (.one (.int .i64 p3)), .val (.one (.int .i64 p4))], [.box [(.int .i64 p5), (.int .i64 p6), (.int .i64 p7), (.int .i64 p8), (.int .i64 p9)]] => tendrilref03_Where_L46 k p0 p1 p2 p3 p4 p5 p6 p7 p8 p9
  | _, _ => none
def tendrilref03_Where_P14 (k : Nat) (vs : List SV) (bs : List Blk) : Option (Int × Int × Int × Int) := tendrilref03_Where_P14v0 k vs bs
def tendrilref03_Where_P34 (k : Nat) (vs : List SV) (bs : List Blk) : Option (Int × Int × Int × Int) := tendrilref03_Where_P34v0 k vs bs
def tendrilref03_Where_P40 (k : Nat) (vs : List SV) (bs : List Blk) : Option (Int × Int × Int × Int) := tendrilref03_Where_P40v0 k vs bs
def tendrilref03_Where_P46 (k : Nat) (vs : List SV) (bs : List Blk) : Option (Int × Int × Int × Int) := tendrilref03_Where_P46v0 k vs bs
def tendrilref03_Where_Λ (k L : Nat) (vs : List SV) (bs : List Blk) : Option (Int × Int × Int × Int) := match Nat.beq L 14 with | true => tendrilref03_Where_P14 k vs bs | false => match Nat.beq L 34 with | true => tendrilref03_Where_P34 k vs bs | false => match Nat.beq L 40 with | true => tendrilref03_Where_P40 k vs bs | false => match Nat.beq L 46 with | true => tendrilref03_Where_P46 k vs bs | false => none
def tendrilref03_Where_K (K : Nat) (x : (Int × Int × Int × Int × Int) × Int) : Option (Int × Int × Int × Int) :=
  (tendrilref03_Check ((x.fst.1, x.fst.snd.1, x.fst.snd.snd.1, x.fst.snd.snd.snd.1, x.fst.snd.snd.snd.2))).bind fun r0 =>
  bif r0 != (0 : Int) then
    some (((0 : Int), (0 : Int), (0 : Int), (1 : Int)))
  else
    bif Decidable.decide (x.2 < (0 : Int)) then
      some (((0 : Int), (0 : Int), (0 : Int), (1 : Int)))
    else
      (tendrilref03_Size ((x.fst.1, x.fst.snd.1, x.fst.snd.snd.1, x.fst.snd.snd.snd.1, x.fst.snd.snd.snd.2))).bind fun r1 =>
      bif Decidable.decide (r1 ≤ x.2) then
        some (((0 : Int), (0 : Int), (0 : Int), (1 : Int)))
      else
        bif Decidable.decide (x.2 < (2 : Int)) then
          some (((0 : Int), Go.RowKit.wrap64 (x.2 + (1 : Int)), (0 : Int), (0 : Int)))
        else
          tendrilref03_Where_L14 K (x.2) ((0 : Int)) (x.fst.1) (x.fst.snd.1) (x.fst.snd.snd.1) (x.fst.snd.snd.snd.1) (x.fst.snd.snd.snd.2)
def tendrilref03_Where (x : (Int × (Int × (Int × (Int × Int)))) × Int) : Option (Int × Int × Int × Int) := tendrilref03_Where_K 2000000 x
def tendrilref03_Where_S : Sig := ⟨[⟨true, (.pair .int (.pair .int (.pair .int (.pair .int .int))))⟩, ⟨false, .int⟩], [⟨false, .int⟩, ⟨false, .int⟩, ⟨false, .int⟩, ⟨false, .int⟩], false, tendrilref03_Where⟩
noncomputable def tendrilref03_Where_C : List (Cut (Tup [⟨false, .int⟩, ⟨false, .int⟩, ⟨false, .int⟩, ⟨false, .int⟩])) := cuts Try.prog (lkΓ [(14, tendrilref03_Node_S), (16, tendrilref03_Edge_S), (17, tendrilref03_Field_S), (20, tendrilref03_Check_S), (21, tendrilref03_Size_S)]) Try.f24.ntmps [(46, [1, 2, 13, 14, 71, 74]), (40, [1, 2, 13, 71]), (34, [1, 2, 13]), (14, [1, 2, 35])] (bodyOf Try.f24) (κ0 Try.prog Try.f24 false [⟨false, .int⟩, ⟨false, .int⟩, ⟨false, .int⟩, ⟨false, .int⟩])
set_option maxRecDepth 100000 in
theorem tendrilref03_Where_c14 (k : Nat) (p0 : Int) (p1 : Int) (p2 : Int) (p3 : Int) (p4 : Int) (p5 : Int) (p6 : Int) : ((nthC tendrilref03_Where_C 0).g (mkSt [1, 2, 35] [.val (.one (.int .i64 p0)), .val (.one (.ptr 0 0)), .val (.one (.int .i64 p1))] [.box [(.int .i64 p2), (.int .i64 p3), (.int .i64 p4), (.int .i64 p5), (.int .i64 p6)]])).run (tendrilref03_Where_Λ k) = tendrilref03_Where_L14 (k + 1) p0 p1 p2 p3 p4 p5 p6 := by kernel_rfl
theorem tendrilref03_Where_e14 (k : Nat) (vs : List SV) (bs : List Blk) (r : Int × Int × Int × Int) (h : tendrilref03_Where_P14v0 (k + 1) vs bs = some r) : ((nthC tendrilref03_Where_C 0).g (mkSt [1, 2, 35] vs bs)).run (tendrilref03_Where_Λ k) = some r := by
  unfold tendrilref03_Where_P14v0 at h
  split at h
  · exact (tendrilref03_Where_c14 k _ _ _ _ _ _ _).trans h
  · cases h
set_option maxRecDepth 100000 in
theorem tendrilref03_Where_c34 (k : Nat) (p0 : Int) (p1 : Int) (p2 : Int) (p3 : Int) (p4 : Int) (p5 : Int) (p6 : Int) : ((nthC tendrilref03_Where_C 1).g (mkSt [1, 2, 13] [.val (.one (.int .i64 p0)), .val (.one (.ptr 0 0)), .val (.one (.int .i64 p1))] [.box [(.int .i64 p2), (.int .i64 p3), (.int .i64 p4), (.int .i64 p5), (.int .i64 p6)]])).run (tendrilref03_Where_Λ k) = tendrilref03_Where_L34 (k + 1) p0 p1 p2 p3 p4 p5 p6 := by kernel_rfl
theorem tendrilref03_Where_e34 (k : Nat) (vs : List SV) (bs : List Blk) (r : Int × Int × Int × Int) (h : tendrilref03_Where_P34v0 (k + 1) vs bs = some r) : ((nthC tendrilref03_Where_C 1).g (mkSt [1, 2, 13] vs bs)).run (tendrilref03_Where_Λ k) = some r := by
  unfold tendrilref03_Where_P34v0 at h
  split at h
  · exact (tendrilref03_Where_c34 k _ _ _ _ _ _ _).trans h
  · cases h
set_option maxRecDepth 100000 in
theorem tendrilref03_Where_c40 (k : Nat) (p0 : Int) (p1 : Int) (p2 : Int) (p3 : Int) (p4 : Int) (p5 : Int) (p6 : Int) (p7 : Int) : ((nthC tendrilref03_Where_C 2).g (mkSt [1, 2, 13, 71] [.val (.one (.int .i64 p0)), .val (.one (.ptr 0 0)), .val (.one (.int .i64 p1)), .val (.one (.int .i64 p2))] [.box [(.int .i64 p3), (.int .i64 p4), (.int .i64 p5), (.int .i64 p6), (.int .i64 p7)]])).run (tendrilref03_Where_Λ k) = tendrilref03_Where_L40 (k + 1) p0 p1 p2 p3 p4 p5 p6 p7 := by kernel_rfl
theorem tendrilref03_Where_e40 (k : Nat) (vs : List SV) (bs : List Blk) (r : Int × Int × Int × Int) (h : tendrilref03_Where_P40v0 (k + 1) vs bs = some r) : ((nthC tendrilref03_Where_C 2).g (mkSt [1, 2, 13, 71] vs bs)).run (tendrilref03_Where_Λ k) = some r := by
  unfold tendrilref03_Where_P40v0 at h
  split at h
  · exact (tendrilref03_Where_c40 k _ _ _ _ _ _ _ _).trans h
  · cases h
set_option maxRecDepth 100000 in
theorem tendrilref03_Where_c46 (k : Nat) (p0 : Int) (p1 : Int) (p2 : Int) (p3 : Int) (p4 : Int) (p5 : Int) (p6 : Int) (p7 : Int) (p8 : Int) (p9 : Int) : ((nthC tendrilref03_Where_C 3).g (mkSt [1, 2, 13, 14, 71, 74] [.val (.one (.int .i64 p0)), .val (.one (.ptr 0 0)), .val (.one (.int .i64 p1)), .val (.one (.int .i64 p2)), .val (.one (.int .i64 p3)), .val (.one (.int .i64 p4))] [.box [(.int .i64 p5), (.int .i64 p6), (.int .i64 p7), (.int .i64 p8), (.int .i64 p9)]])).run (tendrilref03_Where_Λ k) = tendrilref03_Where_L46 (k + 1) p0 p1 p2 p3 p4 p5 p6 p7 p8 p9 := by kernel_rfl
theorem tendrilref03_Where_e46 (k : Nat) (vs : List SV) (bs : List Blk) (r : Int × Int × Int × Int) (h : tendrilref03_Where_P46v0 (k + 1) vs bs = some r) : ((nthC tendrilref03_Where_C 3).g (mkSt [1, 2, 13, 14, 71, 74] vs bs)).run (tendrilref03_Where_Λ k) = some r := by
  unfold tendrilref03_Where_P46v0 at h
  split at h
  · exact (tendrilref03_Where_c46 k _ _ _ _ _ _ _ _ _ _).trans h
  · cases h
theorem tendrilref03_Where_d14 : CutOk tendrilref03_Where_Λ (nthC tendrilref03_Where_C 0) := by
  refine cutOk_of (L := 14) (live := [1, 2, 35]) (by kernel_rfl) (by kernel_rfl) fun k vs bs r h => ?_
  change tendrilref03_Where_P14 (k + 1) vs bs = some r at h
  exact tendrilref03_Where_e14 k vs bs r h
theorem tendrilref03_Where_d34 : CutOk tendrilref03_Where_Λ (nthC tendrilref03_Where_C 1) := by
  refine cutOk_of (L := 34) (live := [1, 2, 13]) (by kernel_rfl) (by kernel_rfl) fun k vs bs r h => ?_
  change tendrilref03_Where_P34 (k + 1) vs bs = some r at h
  exact tendrilref03_Where_e34 k vs bs r h
theorem tendrilref03_Where_d40 : CutOk tendrilref03_Where_Λ (nthC tendrilref03_Where_C 2) := by
  refine cutOk_of (L := 40) (live := [1, 2, 13, 71]) (by kernel_rfl) (by kernel_rfl) fun k vs bs r h => ?_
  change tendrilref03_Where_P40 (k + 1) vs bs = some r at h
  exact tendrilref03_Where_e40 k vs bs r h
theorem tendrilref03_Where_d46 : CutOk tendrilref03_Where_Λ (nthC tendrilref03_Where_C 3) := by
  refine cutOk_of (L := 46) (live := [1, 2, 13, 14, 71, 74]) (by kernel_rfl) (by kernel_rfl) fun k vs bs r h => ?_
  change tendrilref03_Where_P46 (k + 1) vs bs = some r at h
  exact tendrilref03_Where_e46 k vs bs r h
theorem tendrilref03_Where_cuts : ∀ p ∈ cuts Try.prog (lkΓ [(14, tendrilref03_Node_S), (16, tendrilref03_Edge_S), (17, tendrilref03_Field_S), (20, tendrilref03_Check_S), (21, tendrilref03_Size_S)]) Try.f24.ntmps [(46, [1, 2, 13, 14, 71, 74]), (40, [1, 2, 13, 71]), (34, [1, 2, 13]), (14, [1, 2, 35])] (bodyOf Try.f24) (κ0 Try.prog Try.f24 false [⟨false, .int⟩, ⟨false, .int⟩, ⟨false, .int⟩, ⟨false, .int⟩]), CutOk tendrilref03_Where_Λ p := cutsOk (l := tendrilref03_Where_C) (n := 4) (by kernel_rfl) fun
  | 0, _ => tendrilref03_Where_d14
  | 1, _ => tendrilref03_Where_d34
  | 2, _ => tendrilref03_Where_d40
  | 3, _ => tendrilref03_Where_d46
  | k + 4, h => absurd h (by omega)
theorem tendrilref03_Where_z14 (vs : List SV) (bs : List Blk) : tendrilref03_Where_P14v0 0 vs bs = none := by
  unfold tendrilref03_Where_P14v0; split
  · first | rfl | (unfold tendrilref03_Where_L14; rfl)
  · rfl
theorem tendrilref03_Where_z34 (vs : List SV) (bs : List Blk) : tendrilref03_Where_P34v0 0 vs bs = none := by
  unfold tendrilref03_Where_P34v0; split
  · first | rfl | (unfold tendrilref03_Where_L34; rfl)
  · rfl
theorem tendrilref03_Where_z40 (vs : List SV) (bs : List Blk) : tendrilref03_Where_P40v0 0 vs bs = none := by
  unfold tendrilref03_Where_P40v0; split
  · first | rfl | (unfold tendrilref03_Where_L40; rfl)
  · rfl
theorem tendrilref03_Where_z46 (vs : List SV) (bs : List Blk) : tendrilref03_Where_P46v0 0 vs bs = none := by
  unfold tendrilref03_Where_P46v0; split
  · first | rfl | (unfold tendrilref03_Where_L46; rfl)
  · rfl
theorem tendrilref03_Where_Λ0 (L : Nat) (vs : List SV) (bs : List Blk) : tendrilref03_Where_Λ 0 L vs bs = none := by
  unfold tendrilref03_Where_Λ
  split
  · unfold tendrilref03_Where_P14
    simp only [tendrilref03_Where_z14]
  split
  · unfold tendrilref03_Where_P34
    simp only [tendrilref03_Where_z34]
  split
  · unfold tendrilref03_Where_P40
    simp only [tendrilref03_Where_z40]
  split
  · unfold tendrilref03_Where_P46
    simp only [tendrilref03_Where_z46]
  rfl
set_option maxRecDepth 100000 in
theorem tendrilref03_Where_run (K : Nat) (x : Tup [⟨true, (.pair .int (.pair .int (.pair .int (.pair .int .int))))⟩, ⟨false, .int⟩]) : (pxFn Try.prog (lkΓ [(14, tendrilref03_Node_S), (16, tendrilref03_Edge_S), (17, tendrilref03_Field_S), (20, tendrilref03_Check_S), (21, tendrilref03_Size_S)]) [(46, [1, 2, 13, 14, 71, 74]), (40, [1, 2, 13, 71]), (34, [1, 2, 13]), (14, [1, 2, 35])] Try.f24 (bodyOf Try.f24) false [⟨false, .int⟩, ⟨false, .int⟩, ⟨false, .int⟩, ⟨false, .int⟩] (encTup [⟨true, (.pair .int (.pair .int (.pair .int (.pair .int .int))))⟩, ⟨false, .int⟩] x)).run (tendrilref03_Where_Λ K) = tendrilref03_Where_K K x := by kernel_rfl
theorem tendrilref03_Where_ok : SigOk Try.prog 24 tendrilref03_Where_S ∧ Bodied Try.prog 24 :=
  ⟨fn_sound (s := tendrilref03_Where_S) (T := [(46, [1, 2, 13, 14, 71, 74]), (40, [1, 2, 13, 71]), (34, [1, 2, 13]), (14, [1, 2, 35])]) (Λ := tendrilref03_Where_Λ) 2000000 Try.func24 (c := bodyOf Try.f24) (by kernel_rfl) (by kernel_rfl) (lkΓ_cons (g := 14) (s0 := tendrilref03_Node_S) tendrilref03_Node_ok (lkΓ_cons (g := 16) (s0 := tendrilref03_Edge_S) tendrilref03_Edge_ok (lkΓ_cons (g := 17) (s0 := tendrilref03_Field_S) tendrilref03_Field_ok (lkΓ_cons (g := 20) (s0 := tendrilref03_Check_S) tendrilref03_Check_ok (lkΓ_cons (g := 21) (s0 := tendrilref03_Size_S) tendrilref03_Size_ok lkΓ_nil))))) (by decide +kernel) (by decide +kernel) tendrilref03_Where_Λ0 tendrilref03_Where_cuts (fun x => tendrilref03_Where_run 2000000 x), bodied_of Try.func24 (by decide +kernel) (by decide +kernel)⟩

/-! tendril/tendrillaw03.PlaceWhere -/
def tendrillaw03_PlaceWhere (x : (Int × Int × Int × Int × Int) × Int) : Option (Bool) :=
  (tendrillaw03_live (())).bind fun r0 =>
  bif !r0 then
    some (Bool.false)
  else
    (place_Where (((x.fst.1, x.fst.snd.1, x.fst.snd.snd.1, x.fst.snd.snd.snd.1, x.fst.snd.snd.snd.2), x.2))).bind fun r1 =>
    (tendrilref03_Where (((x.fst.1, x.fst.snd.1, x.fst.snd.snd.1, x.fst.snd.snd.snd.1, x.fst.snd.snd.snd.2), x.2))).bind fun r2 =>
    bif r1.1 == r2.1 then
      bif r1.snd.1 == r2.snd.1 then
        bif r1.snd.snd.1 == r2.snd.snd.1 then
          some (r1.snd.snd.2 == r2.snd.snd.2)
        else
          some (Bool.false)
      else
        some (Bool.false)
    else
      some (Bool.false)
def tendrillaw03_PlaceWhere_S : Sig := ⟨[⟨true, (.pair .int (.pair .int (.pair .int (.pair .int .int))))⟩, ⟨false, .int⟩], [⟨false, .bool⟩], false, tendrillaw03_PlaceWhere⟩
set_option maxRecDepth 100000 in
theorem tendrillaw03_PlaceWhere_run (x : Tup [⟨true, (.pair .int (.pair .int (.pair .int (.pair .int .int))))⟩, ⟨false, .int⟩]) : (pxFn Try.prog (lkΓ [(9, tendrillaw03_live_S), (23, place_Where_S), (24, tendrilref03_Where_S)]) [] Try.f7 (bodyOf Try.f7) false [⟨false, .bool⟩] (encTup [⟨true, (.pair .int (.pair .int (.pair .int (.pair .int .int))))⟩, ⟨false, .int⟩] x)).run (fun _ _ _ => none) = tendrillaw03_PlaceWhere x := by kernel_rfl
theorem tendrillaw03_PlaceWhere_cuts : ∀ p ∈ cuts Try.prog (lkΓ [(9, tendrillaw03_live_S), (23, place_Where_S), (24, tendrilref03_Where_S)]) Try.f7.ntmps [] (bodyOf Try.f7) (κ0 Try.prog Try.f7 false [⟨false, .bool⟩]), CutOk (fun _ _ _ _ => none) p := cutsNil (by kernel_rfl)
theorem tendrillaw03_PlaceWhere_ok : SigOk Try.prog 7 tendrillaw03_PlaceWhere_S ∧ Bodied Try.prog 7 :=
  ⟨fn_sound (s := tendrillaw03_PlaceWhere_S) (T := []) (Λ := fun _ _ _ _ => none) 0 Try.func7 (c := bodyOf Try.f7) (by kernel_rfl) (by kernel_rfl) (lkΓ_cons (g := 9) (s0 := tendrillaw03_live_S) tendrillaw03_live_ok (lkΓ_cons (g := 23) (s0 := place_Where_S) place_Where_ok (lkΓ_cons (g := 24) (s0 := tendrilref03_Where_S) tendrilref03_Where_ok lkΓ_nil))) (by decide +kernel) (by decide +kernel) (fun _ _ _ => rfl) tendrillaw03_PlaceWhere_cuts (fun x => tendrillaw03_PlaceWhere_run  x), bodied_of Try.func7 (by decide +kernel) (by decide +kernel)⟩

/-! tendril/tendrillaw03.PlaceBack -/
def tendrillaw03_PlaceBack (x : (Int × Int × Int × Int × Int) × Int × Int × Int × Int × Int) : Option (Bool) :=
  (tendrillaw03_live (())).bind fun r0 =>
  bif !r0 then
    some (Bool.false)
  else
    (place_Node (((x.fst.1, x.fst.snd.1, x.fst.snd.snd.1, x.fst.snd.snd.snd.1, x.fst.snd.snd.snd.2), x.snd.1))).bind fun r1 =>
    bif r1.2 == (0 : Int) then
      (place_Where (((x.fst.1, x.fst.snd.1, x.fst.snd.snd.1, x.fst.snd.snd.snd.1, x.fst.snd.snd.snd.2), r1.1))).bind fun r2 =>
      bif r2.snd.snd.2 != (0 : Int) then
        some (Bool.false)
      else
        bif r2.1 != (4 : Int) then
          some (Bool.false)
        else
          bif r2.snd.1 != x.snd.1 then
            some (Bool.false)
          else
            bif r2.snd.snd.1 != (0 : Int) then
              some (Bool.false)
            else
              (place_Edge (((x.fst.1, x.fst.snd.1, x.fst.snd.snd.1, x.fst.snd.snd.snd.1, x.fst.snd.snd.snd.2), x.snd.1))).bind fun r3 =>
              bif r3.2 == (0 : Int) then
                (place_Where (((x.fst.1, x.fst.snd.1, x.fst.snd.snd.1, x.fst.snd.snd.snd.1, x.fst.snd.snd.snd.2), r3.1))).bind fun r4 =>
                bif r4.snd.snd.2 != (0 : Int) then
                  some (Bool.false)
                else
                  bif r4.1 != (5 : Int) then
                    some (Bool.false)
                  else
                    bif r4.snd.1 != x.snd.1 then
                      some (Bool.false)
                    else
                      bif r4.snd.snd.1 != (0 : Int) then
                        some (Bool.false)
                      else
                        (place_Field (((x.fst.1, x.fst.snd.1, x.fst.snd.snd.1, x.fst.snd.snd.snd.1, x.fst.snd.snd.snd.2), x.snd.snd.1, x.snd.snd.snd.1, x.snd.snd.snd.snd.1))).bind fun r5 =>
                        bif r5.2 == (0 : Int) then
                          (place_Where (((x.fst.1, x.fst.snd.1, x.fst.snd.snd.1, x.fst.snd.snd.snd.1, x.fst.snd.snd.snd.2), r5.1))).bind fun r6 =>
                          bif r6.snd.snd.2 != (0 : Int) then
                            some (Bool.false)
                          else
                            bif r6.1 != x.snd.snd.1 then
                              some (Bool.false)
                            else
                              bif r6.snd.1 != x.snd.snd.snd.1 then
                                some (Bool.false)
                              else
                                bif r6.snd.snd.1 != x.snd.snd.snd.snd.1 then
                                  some (Bool.false)
                                else
                                  (place_Where (((x.fst.1, x.fst.snd.1, x.fst.snd.snd.1, x.fst.snd.snd.snd.1, x.fst.snd.snd.snd.2), x.snd.snd.snd.snd.2))).bind fun r7 =>
                                  bif r7.snd.snd.2 != (0 : Int) then
                                    bif r7.1 == (0 : Int) then
                                      bif r7.snd.1 == (0 : Int) then
                                        bif r7.snd.snd.1 == (0 : Int) then
                                          bif Decidable.decide (x.snd.snd.snd.snd.2 < (0 : Int)) then
                                            some (Bool.true)
                                          else
                                            (place_Size ((x.fst.1, x.fst.snd.1, x.fst.snd.snd.1, x.fst.snd.snd.snd.1, x.fst.snd.snd.snd.2))).bind fun r8 =>
                                            some (Decidable.decide (r8 ≤ x.snd.snd.snd.snd.2))
                                        else
                                          some (Bool.false)
                                      else
                                        some (Bool.false)
                                    else
                                      some (Bool.false)
                                  else
                                    bif r7.1 == (0 : Int) then
                                      some (Go.RowKit.wrap64 (r7.snd.1 - (1 : Int)) == x.snd.snd.snd.snd.2)
                                    else
                                      bif r7.1 == (4 : Int) then
                                        (place_Node (((x.fst.1, x.fst.snd.1, x.fst.snd.snd.1, x.fst.snd.snd.snd.1, x.fst.snd.snd.snd.2), r7.snd.1))).bind fun r9 =>
                                        bif r9.2 == (0 : Int) then
                                          some (r9.1 == x.snd.snd.snd.snd.2)
                                        else
                                          some (Bool.false)
                                      else
                                        bif r7.1 == (5 : Int) then
                                          (place_Edge (((x.fst.1, x.fst.snd.1, x.fst.snd.snd.1, x.fst.snd.snd.snd.1, x.fst.snd.snd.snd.2), r7.snd.1))).bind fun r10 =>
                                          bif r10.2 == (0 : Int) then
                                            some (r10.1 == x.snd.snd.snd.snd.2)
                                          else
                                            some (Bool.false)
                                        else
                                          (place_Field (((x.fst.1, x.fst.snd.1, x.fst.snd.snd.1, x.fst.snd.snd.snd.1, x.fst.snd.snd.snd.2), r7.1, r7.snd.1, r7.snd.snd.1))).bind fun r11 =>
                                          bif r11.2 == (0 : Int) then
                                            some (r11.1 == x.snd.snd.snd.snd.2)
                                          else
                                            some (Bool.false)
                        else
                          (place_Where (((x.fst.1, x.fst.snd.1, x.fst.snd.snd.1, x.fst.snd.snd.snd.1, x.fst.snd.snd.snd.2), x.snd.snd.snd.snd.2))).bind fun r12 =>
                          bif r12.snd.snd.2 != (0 : Int) then
                            bif r12.1 == (0 : Int) then
                              bif r12.snd.1 == (0 : Int) then
                                bif r12.snd.snd.1 == (0 : Int) then
                                  bif Decidable.decide (x.snd.snd.snd.snd.2 < (0 : Int)) then
                                    some (Bool.true)
                                  else
                                    (place_Size ((x.fst.1, x.fst.snd.1, x.fst.snd.snd.1, x.fst.snd.snd.snd.1, x.fst.snd.snd.snd.2))).bind fun r13 =>
                                    some (Decidable.decide (r13 ≤ x.snd.snd.snd.snd.2))
                                else
                                  some (Bool.false)
                              else
                                some (Bool.false)
                            else
                              some (Bool.false)
                          else
                            bif r12.1 == (0 : Int) then
                              some (Go.RowKit.wrap64 (r12.snd.1 - (1 : Int)) == x.snd.snd.snd.snd.2)
                            else
                              bif r12.1 == (4 : Int) then
                                (place_Node (((x.fst.1, x.fst.snd.1, x.fst.snd.snd.1, x.fst.snd.snd.snd.1, x.fst.snd.snd.snd.2), r12.snd.1))).bind fun r14 =>
                                bif r14.2 == (0 : Int) then
                                  some (r14.1 == x.snd.snd.snd.snd.2)
                                else
                                  some (Bool.false)
                              else
                                bif r12.1 == (5 : Int) then
                                  (place_Edge (((x.fst.1, x.fst.snd.1, x.fst.snd.snd.1, x.fst.snd.snd.snd.1, x.fst.snd.snd.snd.2), r12.snd.1))).bind fun r15 =>
                                  bif r15.2 == (0 : Int) then
                                    some (r15.1 == x.snd.snd.snd.snd.2)
                                  else
                                    some (Bool.false)
                                else
                                  (place_Field (((x.fst.1, x.fst.snd.1, x.fst.snd.snd.1, x.fst.snd.snd.snd.1, x.fst.snd.snd.snd.2), r12.1, r12.snd.1, r12.snd.snd.1))).bind fun r16 =>
                                  bif r16.2 == (0 : Int) then
                                    some (r16.1 == x.snd.snd.snd.snd.2)
                                  else
                                    some (Bool.false)
              else
                (place_Field (((x.fst.1, x.fst.snd.1, x.fst.snd.snd.1, x.fst.snd.snd.snd.1, x.fst.snd.snd.snd.2), x.snd.snd.1, x.snd.snd.snd.1, x.snd.snd.snd.snd.1))).bind fun r17 =>
                bif r17.2 == (0 : Int) then
                  (place_Where (((x.fst.1, x.fst.snd.1, x.fst.snd.snd.1, x.fst.snd.snd.snd.1, x.fst.snd.snd.snd.2), r17.1))).bind fun r18 =>
                  bif r18.snd.snd.2 != (0 : Int) then
                    some (Bool.false)
                  else
                    bif r18.1 != x.snd.snd.1 then
                      some (Bool.false)
                    else
                      bif r18.snd.1 != x.snd.snd.snd.1 then
                        some (Bool.false)
                      else
                        bif r18.snd.snd.1 != x.snd.snd.snd.snd.1 then
                          some (Bool.false)
                        else
                          (place_Where (((x.fst.1, x.fst.snd.1, x.fst.snd.snd.1, x.fst.snd.snd.snd.1, x.fst.snd.snd.snd.2), x.snd.snd.snd.snd.2))).bind fun r19 =>
                          bif r19.snd.snd.2 != (0 : Int) then
                            bif r19.1 == (0 : Int) then
                              bif r19.snd.1 == (0 : Int) then
                                bif r19.snd.snd.1 == (0 : Int) then
                                  bif Decidable.decide (x.snd.snd.snd.snd.2 < (0 : Int)) then
                                    some (Bool.true)
                                  else
                                    (place_Size ((x.fst.1, x.fst.snd.1, x.fst.snd.snd.1, x.fst.snd.snd.snd.1, x.fst.snd.snd.snd.2))).bind fun r20 =>
                                    some (Decidable.decide (r20 ≤ x.snd.snd.snd.snd.2))
                                else
                                  some (Bool.false)
                              else
                                some (Bool.false)
                            else
                              some (Bool.false)
                          else
                            bif r19.1 == (0 : Int) then
                              some (Go.RowKit.wrap64 (r19.snd.1 - (1 : Int)) == x.snd.snd.snd.snd.2)
                            else
                              bif r19.1 == (4 : Int) then
                                (place_Node (((x.fst.1, x.fst.snd.1, x.fst.snd.snd.1, x.fst.snd.snd.snd.1, x.fst.snd.snd.snd.2), r19.snd.1))).bind fun r21 =>
                                bif r21.2 == (0 : Int) then
                                  some (r21.1 == x.snd.snd.snd.snd.2)
                                else
                                  some (Bool.false)
                              else
                                bif r19.1 == (5 : Int) then
                                  (place_Edge (((x.fst.1, x.fst.snd.1, x.fst.snd.snd.1, x.fst.snd.snd.snd.1, x.fst.snd.snd.snd.2), r19.snd.1))).bind fun r22 =>
                                  bif r22.2 == (0 : Int) then
                                    some (r22.1 == x.snd.snd.snd.snd.2)
                                  else
                                    some (Bool.false)
                                else
                                  (place_Field (((x.fst.1, x.fst.snd.1, x.fst.snd.snd.1, x.fst.snd.snd.snd.1, x.fst.snd.snd.snd.2), r19.1, r19.snd.1, r19.snd.snd.1))).bind fun r23 =>
                                  bif r23.2 == (0 : Int) then
                                    some (r23.1 == x.snd.snd.snd.snd.2)
                                  else
                                    some (Bool.false)
                else
                  (place_Where (((x.fst.1, x.fst.snd.1, x.fst.snd.snd.1, x.fst.snd.snd.snd.1, x.fst.snd.snd.snd.2), x.snd.snd.snd.snd.2))).bind fun r24 =>
                  bif r24.snd.snd.2 != (0 : Int) then
                    bif r24.1 == (0 : Int) then
                      bif r24.snd.1 == (0 : Int) then
                        bif r24.snd.snd.1 == (0 : Int) then
                          bif Decidable.decide (x.snd.snd.snd.snd.2 < (0 : Int)) then
                            some (Bool.true)
                          else
                            (place_Size ((x.fst.1, x.fst.snd.1, x.fst.snd.snd.1, x.fst.snd.snd.snd.1, x.fst.snd.snd.snd.2))).bind fun r25 =>
                            some (Decidable.decide (r25 ≤ x.snd.snd.snd.snd.2))
                        else
                          some (Bool.false)
                      else
                        some (Bool.false)
                    else
                      some (Bool.false)
                  else
                    bif r24.1 == (0 : Int) then
                      some (Go.RowKit.wrap64 (r24.snd.1 - (1 : Int)) == x.snd.snd.snd.snd.2)
                    else
                      bif r24.1 == (4 : Int) then
                        (place_Node (((x.fst.1, x.fst.snd.1, x.fst.snd.snd.1, x.fst.snd.snd.snd.1, x.fst.snd.snd.snd.2), r24.snd.1))).bind fun r26 =>
                        bif r26.2 == (0 : Int) then
                          some (r26.1 == x.snd.snd.snd.snd.2)
                        else
                          some (Bool.false)
                      else
                        bif r24.1 == (5 : Int) then
                          (place_Edge (((x.fst.1, x.fst.snd.1, x.fst.snd.snd.1, x.fst.snd.snd.snd.1, x.fst.snd.snd.snd.2), r24.snd.1))).bind fun r27 =>
                          bif r27.2 == (0 : Int) then
                            some (r27.1 == x.snd.snd.snd.snd.2)
                          else
                            some (Bool.false)
                        else
                          (place_Field (((x.fst.1, x.fst.snd.1, x.fst.snd.snd.1, x.fst.snd.snd.snd.1, x.fst.snd.snd.snd.2), r24.1, r24.snd.1, r24.snd.snd.1))).bind fun r28 =>
                          bif r28.2 == (0 : Int) then
                            some (r28.1 == x.snd.snd.snd.snd.2)
                          else
                            some (Bool.false)
    else
      (place_Edge (((x.fst.1, x.fst.snd.1, x.fst.snd.snd.1, x.fst.snd.snd.snd.1, x.fst.snd.snd.snd.2), x.snd.1))).bind fun r29 =>
      bif r29.2 == (0 : Int) then
        (place_Where (((x.fst.1, x.fst.snd.1, x.fst.snd.snd.1, x.fst.snd.snd.snd.1, x.fst.snd.snd.snd.2), r29.1))).bind fun r30 =>
        bif r30.snd.snd.2 != (0 : Int) then
          some (Bool.false)
        else
          bif r30.1 != (5 : Int) then
            some (Bool.false)
          else
            bif r30.snd.1 != x.snd.1 then
              some (Bool.false)
            else
              bif r30.snd.snd.1 != (0 : Int) then
                some (Bool.false)
              else
                (place_Field (((x.fst.1, x.fst.snd.1, x.fst.snd.snd.1, x.fst.snd.snd.snd.1, x.fst.snd.snd.snd.2), x.snd.snd.1, x.snd.snd.snd.1, x.snd.snd.snd.snd.1))).bind fun r31 =>
                bif r31.2 == (0 : Int) then
                  (place_Where (((x.fst.1, x.fst.snd.1, x.fst.snd.snd.1, x.fst.snd.snd.snd.1, x.fst.snd.snd.snd.2), r31.1))).bind fun r32 =>
                  bif r32.snd.snd.2 != (0 : Int) then
                    some (Bool.false)
                  else
                    bif r32.1 != x.snd.snd.1 then
                      some (Bool.false)
                    else
                      bif r32.snd.1 != x.snd.snd.snd.1 then
                        some (Bool.false)
                      else
                        bif r32.snd.snd.1 != x.snd.snd.snd.snd.1 then
                          some (Bool.false)
                        else
                          (place_Where (((x.fst.1, x.fst.snd.1, x.fst.snd.snd.1, x.fst.snd.snd.snd.1, x.fst.snd.snd.snd.2), x.snd.snd.snd.snd.2))).bind fun r33 =>
                          bif r33.snd.snd.2 != (0 : Int) then
                            bif r33.1 == (0 : Int) then
                              bif r33.snd.1 == (0 : Int) then
                                bif r33.snd.snd.1 == (0 : Int) then
                                  bif Decidable.decide (x.snd.snd.snd.snd.2 < (0 : Int)) then
                                    some (Bool.true)
                                  else
                                    (place_Size ((x.fst.1, x.fst.snd.1, x.fst.snd.snd.1, x.fst.snd.snd.snd.1, x.fst.snd.snd.snd.2))).bind fun r34 =>
                                    some (Decidable.decide (r34 ≤ x.snd.snd.snd.snd.2))
                                else
                                  some (Bool.false)
                              else
                                some (Bool.false)
                            else
                              some (Bool.false)
                          else
                            bif r33.1 == (0 : Int) then
                              some (Go.RowKit.wrap64 (r33.snd.1 - (1 : Int)) == x.snd.snd.snd.snd.2)
                            else
                              bif r33.1 == (4 : Int) then
                                (place_Node (((x.fst.1, x.fst.snd.1, x.fst.snd.snd.1, x.fst.snd.snd.snd.1, x.fst.snd.snd.snd.2), r33.snd.1))).bind fun r35 =>
                                bif r35.2 == (0 : Int) then
                                  some (r35.1 == x.snd.snd.snd.snd.2)
                                else
                                  some (Bool.false)
                              else
                                bif r33.1 == (5 : Int) then
                                  (place_Edge (((x.fst.1, x.fst.snd.1, x.fst.snd.snd.1, x.fst.snd.snd.snd.1, x.fst.snd.snd.snd.2), r33.snd.1))).bind fun r36 =>
                                  bif r36.2 == (0 : Int) then
                                    some (r36.1 == x.snd.snd.snd.snd.2)
                                  else
                                    some (Bool.false)
                                else
                                  (place_Field (((x.fst.1, x.fst.snd.1, x.fst.snd.snd.1, x.fst.snd.snd.snd.1, x.fst.snd.snd.snd.2), r33.1, r33.snd.1, r33.snd.snd.1))).bind fun r37 =>
                                  bif r37.2 == (0 : Int) then
                                    some (r37.1 == x.snd.snd.snd.snd.2)
                                  else
                                    some (Bool.false)
                else
                  (place_Where (((x.fst.1, x.fst.snd.1, x.fst.snd.snd.1, x.fst.snd.snd.snd.1, x.fst.snd.snd.snd.2), x.snd.snd.snd.snd.2))).bind fun r38 =>
                  bif r38.snd.snd.2 != (0 : Int) then
                    bif r38.1 == (0 : Int) then
                      bif r38.snd.1 == (0 : Int) then
                        bif r38.snd.snd.1 == (0 : Int) then
                          bif Decidable.decide (x.snd.snd.snd.snd.2 < (0 : Int)) then
                            some (Bool.true)
                          else
                            (place_Size ((x.fst.1, x.fst.snd.1, x.fst.snd.snd.1, x.fst.snd.snd.snd.1, x.fst.snd.snd.snd.2))).bind fun r39 =>
                            some (Decidable.decide (r39 ≤ x.snd.snd.snd.snd.2))
                        else
                          some (Bool.false)
                      else
                        some (Bool.false)
                    else
                      some (Bool.false)
                  else
                    bif r38.1 == (0 : Int) then
                      some (Go.RowKit.wrap64 (r38.snd.1 - (1 : Int)) == x.snd.snd.snd.snd.2)
                    else
                      bif r38.1 == (4 : Int) then
                        (place_Node (((x.fst.1, x.fst.snd.1, x.fst.snd.snd.1, x.fst.snd.snd.snd.1, x.fst.snd.snd.snd.2), r38.snd.1))).bind fun r40 =>
                        bif r40.2 == (0 : Int) then
                          some (r40.1 == x.snd.snd.snd.snd.2)
                        else
                          some (Bool.false)
                      else
                        bif r38.1 == (5 : Int) then
                          (place_Edge (((x.fst.1, x.fst.snd.1, x.fst.snd.snd.1, x.fst.snd.snd.snd.1, x.fst.snd.snd.snd.2), r38.snd.1))).bind fun r41 =>
                          bif r41.2 == (0 : Int) then
                            some (r41.1 == x.snd.snd.snd.snd.2)
                          else
                            some (Bool.false)
                        else
                          (place_Field (((x.fst.1, x.fst.snd.1, x.fst.snd.snd.1, x.fst.snd.snd.snd.1, x.fst.snd.snd.snd.2), r38.1, r38.snd.1, r38.snd.snd.1))).bind fun r42 =>
                          bif r42.2 == (0 : Int) then
                            some (r42.1 == x.snd.snd.snd.snd.2)
                          else
                            some (Bool.false)
      else
        (place_Field (((x.fst.1, x.fst.snd.1, x.fst.snd.snd.1, x.fst.snd.snd.snd.1, x.fst.snd.snd.snd.2), x.snd.snd.1, x.snd.snd.snd.1, x.snd.snd.snd.snd.1))).bind fun r43 =>
        bif r43.2 == (0 : Int) then
          (place_Where (((x.fst.1, x.fst.snd.1, x.fst.snd.snd.1, x.fst.snd.snd.snd.1, x.fst.snd.snd.snd.2), r43.1))).bind fun r44 =>
          bif r44.snd.snd.2 != (0 : Int) then
            some (Bool.false)
          else
            bif r44.1 != x.snd.snd.1 then
              some (Bool.false)
            else
              bif r44.snd.1 != x.snd.snd.snd.1 then
                some (Bool.false)
              else
                bif r44.snd.snd.1 != x.snd.snd.snd.snd.1 then
                  some (Bool.false)
                else
                  (place_Where (((x.fst.1, x.fst.snd.1, x.fst.snd.snd.1, x.fst.snd.snd.snd.1, x.fst.snd.snd.snd.2), x.snd.snd.snd.snd.2))).bind fun r45 =>
                  bif r45.snd.snd.2 != (0 : Int) then
                    bif r45.1 == (0 : Int) then
                      bif r45.snd.1 == (0 : Int) then
                        bif r45.snd.snd.1 == (0 : Int) then
                          bif Decidable.decide (x.snd.snd.snd.snd.2 < (0 : Int)) then
                            some (Bool.true)
                          else
                            (place_Size ((x.fst.1, x.fst.snd.1, x.fst.snd.snd.1, x.fst.snd.snd.snd.1, x.fst.snd.snd.snd.2))).bind fun r46 =>
                            some (Decidable.decide (r46 ≤ x.snd.snd.snd.snd.2))
                        else
                          some (Bool.false)
                      else
                        some (Bool.false)
                    else
                      some (Bool.false)
                  else
                    bif r45.1 == (0 : Int) then
                      some (Go.RowKit.wrap64 (r45.snd.1 - (1 : Int)) == x.snd.snd.snd.snd.2)
                    else
                      bif r45.1 == (4 : Int) then
                        (place_Node (((x.fst.1, x.fst.snd.1, x.fst.snd.snd.1, x.fst.snd.snd.snd.1, x.fst.snd.snd.snd.2), r45.snd.1))).bind fun r47 =>
                        bif r47.2 == (0 : Int) then
                          some (r47.1 == x.snd.snd.snd.snd.2)
                        else
                          some (Bool.false)
                      else
                        bif r45.1 == (5 : Int) then
                          (place_Edge (((x.fst.1, x.fst.snd.1, x.fst.snd.snd.1, x.fst.snd.snd.snd.1, x.fst.snd.snd.snd.2), r45.snd.1))).bind fun r48 =>
                          bif r48.2 == (0 : Int) then
                            some (r48.1 == x.snd.snd.snd.snd.2)
                          else
                            some (Bool.false)
                        else
                          (place_Field (((x.fst.1, x.fst.snd.1, x.fst.snd.snd.1, x.fst.snd.snd.snd.1, x.fst.snd.snd.snd.2), r45.1, r45.snd.1, r45.snd.snd.1))).bind fun r49 =>
                          bif r49.2 == (0 : Int) then
                            some (r49.1 == x.snd.snd.snd.snd.2)
                          else
                            some (Bool.false)
        else
          (place_Where (((x.fst.1, x.fst.snd.1, x.fst.snd.snd.1, x.fst.snd.snd.snd.1, x.fst.snd.snd.snd.2), x.snd.snd.snd.snd.2))).bind fun r50 =>
          bif r50.snd.snd.2 != (0 : Int) then
            bif r50.1 == (0 : Int) then
              bif r50.snd.1 == (0 : Int) then
                bif r50.snd.snd.1 == (0 : Int) then
                  bif Decidable.decide (x.snd.snd.snd.snd.2 < (0 : Int)) then
                    some (Bool.true)
                  else
                    (place_Size ((x.fst.1, x.fst.snd.1, x.fst.snd.snd.1, x.fst.snd.snd.snd.1, x.fst.snd.snd.snd.2))).bind fun r51 =>
                    some (Decidable.decide (r51 ≤ x.snd.snd.snd.snd.2))
                else
                  some (Bool.false)
              else
                some (Bool.false)
            else
              some (Bool.false)
          else
            bif r50.1 == (0 : Int) then
              some (Go.RowKit.wrap64 (r50.snd.1 - (1 : Int)) == x.snd.snd.snd.snd.2)
            else
              bif r50.1 == (4 : Int) then
                (place_Node (((x.fst.1, x.fst.snd.1, x.fst.snd.snd.1, x.fst.snd.snd.snd.1, x.fst.snd.snd.snd.2), r50.snd.1))).bind fun r52 =>
                bif r52.2 == (0 : Int) then
                  some (r52.1 == x.snd.snd.snd.snd.2)
                else
                  some (Bool.false)
              else
                bif r50.1 == (5 : Int) then
                  (place_Edge (((x.fst.1, x.fst.snd.1, x.fst.snd.snd.1, x.fst.snd.snd.snd.1, x.fst.snd.snd.snd.2), r50.snd.1))).bind fun r53 =>
                  bif r53.2 == (0 : Int) then
                    some (r53.1 == x.snd.snd.snd.snd.2)
                  else
                    some (Bool.false)
                else
                  (place_Field (((x.fst.1, x.fst.snd.1, x.fst.snd.snd.1, x.fst.snd.snd.snd.1, x.fst.snd.snd.snd.2), r50.1, r50.snd.1, r50.snd.snd.1))).bind fun r54 =>
                  bif r54.2 == (0 : Int) then
                    some (r54.1 == x.snd.snd.snd.snd.2)
                  else
                    some (Bool.false)
def tendrillaw03_PlaceBack_S : Sig := ⟨[⟨true, (.pair .int (.pair .int (.pair .int (.pair .int .int))))⟩, ⟨false, .int⟩, ⟨false, .int⟩, ⟨false, .int⟩, ⟨false, .int⟩, ⟨false, .int⟩], [⟨false, .bool⟩], false, tendrillaw03_PlaceBack⟩
set_option maxRecDepth 100000 in
theorem tendrillaw03_PlaceBack_run (x : Tup [⟨true, (.pair .int (.pair .int (.pair .int (.pair .int .int))))⟩, ⟨false, .int⟩, ⟨false, .int⟩, ⟨false, .int⟩, ⟨false, .int⟩, ⟨false, .int⟩]) : (pxFn Try.prog (lkΓ [(9, tendrillaw03_live_S), (11, place_Size_S), (12, place_Field_S), (13, place_Node_S), (15, place_Edge_S), (23, place_Where_S)]) [] Try.f8 (bodyOf Try.f8) false [⟨false, .bool⟩] (encTup [⟨true, (.pair .int (.pair .int (.pair .int (.pair .int .int))))⟩, ⟨false, .int⟩, ⟨false, .int⟩, ⟨false, .int⟩, ⟨false, .int⟩, ⟨false, .int⟩] x)).run (fun _ _ _ => none) = tendrillaw03_PlaceBack x := by kernel_rfl
theorem tendrillaw03_PlaceBack_cuts : ∀ p ∈ cuts Try.prog (lkΓ [(9, tendrillaw03_live_S), (11, place_Size_S), (12, place_Field_S), (13, place_Node_S), (15, place_Edge_S), (23, place_Where_S)]) Try.f8.ntmps [] (bodyOf Try.f8) (κ0 Try.prog Try.f8 false [⟨false, .bool⟩]), CutOk (fun _ _ _ _ => none) p := cutsNil (by kernel_rfl)
theorem tendrillaw03_PlaceBack_ok : SigOk Try.prog 8 tendrillaw03_PlaceBack_S ∧ Bodied Try.prog 8 :=
  ⟨fn_sound (s := tendrillaw03_PlaceBack_S) (T := []) (Λ := fun _ _ _ _ => none) 0 Try.func8 (c := bodyOf Try.f8) (by kernel_rfl) (by kernel_rfl) (lkΓ_cons (g := 9) (s0 := tendrillaw03_live_S) tendrillaw03_live_ok (lkΓ_cons (g := 11) (s0 := place_Size_S) place_Size_ok (lkΓ_cons (g := 12) (s0 := place_Field_S) place_Field_ok (lkΓ_cons (g := 13) (s0 := place_Node_S) place_Node_ok (lkΓ_cons (g := 15) (s0 := place_Edge_S) place_Edge_ok (lkΓ_cons (g := 23) (s0 := place_Where_S) place_Where_ok lkΓ_nil)))))) (by decide +kernel) (by decide +kernel) (fun _ _ _ => rfl) tendrillaw03_PlaceBack_cuts (fun x => tendrillaw03_PlaceBack_run  x), bodied_of Try.func8 (by decide +kernel) (by decide +kernel)⟩

end Go.Proofs.YtfnkomlakgiicadFn
