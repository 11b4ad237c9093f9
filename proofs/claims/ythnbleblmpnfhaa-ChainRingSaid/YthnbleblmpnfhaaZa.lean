/- x; no condition. -/
import Derived.Test.YthnbleblmpnfhaaProg
import Derived.KernelRfl
import Derived.Test.YthnbleblmpnfhaaPx25
set_option linter.unusedVariables false
set_option linter.unusedSimpArgs false
namespace Go.Proofs.YthnbleblmpnfhaaFn
open Go Go.RowKit Go.Proofs.YthnbleblmpnfhaaPx
/-! tendril/place.Check -/
def place_Check (x : Int × Int × Int × Int × Int) : Option (Int) :=
  bif Decidable.decide ((if x.snd.snd.snd.2 < if x.snd.snd.snd.1 < if x.snd.snd.1 < if x.snd.1 < x.1 then x.snd.1 else x.1 then x.snd.snd.1 else if x.snd.1 < x.1 then x.snd.1 else x.1 then x.snd.snd.snd.1 else if x.snd.snd.1 < if x.snd.1 < x.1 then x.snd.1 else x.1 then x.snd.snd.1 else if x.snd.1 < x.1 then x.snd.1 else x.1 then x.snd.snd.snd.2 else if x.snd.snd.snd.1 < if x.snd.snd.1 < if x.snd.1 < x.1 then x.snd.1 else x.1 then x.snd.snd.1 else if x.snd.1 < x.1 then x.snd.1 else x.1 then x.snd.snd.snd.1 else if x.snd.snd.1 < if x.snd.1 < x.1 then x.snd.1 else x.1 then x.snd.snd.1 else if x.snd.1 < x.1 then x.snd.1 else x.1) < (1 : Int)) then
    some ((1 : Int))
  else
    bif Decidable.decide ((64 : Int) < if (if x.1 < x.snd.1 then x.snd.1 else x.1) < x.snd.snd.1 then x.snd.snd.1 else if x.1 < x.snd.1 then x.snd.1 else x.1) then
      some ((1 : Int))
    else
      bif Decidable.decide ((64 : Int) < if x.snd.snd.snd.1 < x.snd.snd.snd.2 then x.snd.snd.snd.2 else x.snd.snd.snd.1) then
        some ((1 : Int))
      else
        some ((0 : Int))
def place_Check_S : Sig := ⟨[⟨true, (.pair .int (.pair .int (.pair .int (.pair .int .int))))⟩], [⟨false, .int⟩], false, place_Check⟩
set_option maxRecDepth 100000 in
theorem place_Check_run (x : Tup [⟨true, (.pair .int (.pair .int (.pair .int (.pair .int .int))))⟩]) : (pxFn Try.prog (lkΓ []) [] Try.f23 (bodyOf Try.f23) false [⟨false, .int⟩] (encTup [⟨true, (.pair .int (.pair .int (.pair .int (.pair .int .int))))⟩] x)).run (fun _ _ _ => none) = place_Check x := by kernel_rfl
theorem place_Check_cuts : ∀ p ∈ cuts Try.prog (lkΓ []) Try.f23.ntmps [] (bodyOf Try.f23) (κ0 Try.prog Try.f23 false [⟨false, .int⟩]), CutOk (fun _ _ _ _ => none) p := cutsNil (by kernel_rfl)
theorem place_Check_ok : SigOk Try.prog 23 place_Check_S ∧ Bodied Try.prog 23 :=
  ⟨fn_sound (s := place_Check_S) (T := []) (Λ := fun _ _ _ _ => none) 0 Try.func23 (c := bodyOf Try.f23) (by kernel_rfl) (by kernel_rfl) lkΓ_nil (by decide +kernel) (by decide +kernel) (fun _ _ _ => rfl) place_Check_cuts (fun x => place_Check_run  x), bodied_of Try.func23 (by decide +kernel) (by decide +kernel)⟩

/-! tendril/place.kinds -/
def place_kinds (x : Int × Int × Int × Int × Int) : Option ((Int × Int × Int) × (Int × Int × Int) × (Int × Int × Int) × (Int × Int × Int) × Int × Int × Int) :=
  some ((((0 : Int), (0 : Int), (0 : Int)), (x.1, (4 : Int), Go.RowKit.wrap64 (Go.RowKit.wrap64 ((2 : Int) + x.snd.snd.snd.1) + x.snd.snd.snd.2)), (x.snd.1, (5 : Int), Go.RowKit.wrap64 (Go.RowKit.wrap64 (Go.RowKit.wrap64 ((2 : Int) + x.snd.snd.snd.1) + x.snd.snd.snd.2) + Go.RowKit.wrap64 (x.1 * (4 : Int)))), (x.snd.snd.1, (3 : Int), Go.RowKit.wrap64 (Go.RowKit.wrap64 (Go.RowKit.wrap64 (Go.RowKit.wrap64 ((2 : Int) + x.snd.snd.snd.1) + x.snd.snd.snd.2) + Go.RowKit.wrap64 (x.1 * (4 : Int))) + Go.RowKit.wrap64 (x.snd.1 * (5 : Int)))), (0 : Int), (0 : Int), Go.RowKit.wrap64 (Go.RowKit.wrap64 (Go.RowKit.wrap64 (Go.RowKit.wrap64 (Go.RowKit.wrap64 ((2 : Int) + x.snd.snd.snd.1) + x.snd.snd.snd.2) + Go.RowKit.wrap64 (x.1 * (4 : Int))) + Go.RowKit.wrap64 (x.snd.1 * (5 : Int))) + Go.RowKit.wrap64 (x.snd.snd.1 * (3 : Int)))))
def place_kinds_S : Sig := ⟨[⟨true, (.pair .int (.pair .int (.pair .int (.pair .int .int))))⟩], [⟨true, (.pair (.pair .int (.pair .int .int)) (.pair (.pair .int (.pair .int .int)) (.pair (.pair .int (.pair .int .int)) (.pair (.pair .int (.pair .int .int)) (.pair .int (.pair .int .int))))))⟩], false, place_kinds⟩
set_option maxRecDepth 100000 in
theorem place_kinds_run (x : Tup [⟨true, (.pair .int (.pair .int (.pair .int (.pair .int .int))))⟩]) : (pxFn Try.prog (lkΓ []) [] Try.f32 (bodyOf Try.f32) false [⟨true, (.pair (.pair .int (.pair .int .int)) (.pair (.pair .int (.pair .int .int)) (.pair (.pair .int (.pair .int .int)) (.pair (.pair .int (.pair .int .int)) (.pair .int (.pair .int .int))))))⟩] (encTup [⟨true, (.pair .int (.pair .int (.pair .int (.pair .int .int))))⟩] x)).run (fun _ _ _ => none) = place_kinds x := by kernel_rfl
theorem place_kinds_cuts : ∀ p ∈ cuts Try.prog (lkΓ []) Try.f32.ntmps [] (bodyOf Try.f32) (κ0 Try.prog Try.f32 false [⟨true, (.pair (.pair .int (.pair .int .int)) (.pair (.pair .int (.pair .int .int)) (.pair (.pair .int (.pair .int .int)) (.pair (.pair .int (.pair .int .int)) (.pair .int (.pair .int .int))))))⟩]), CutOk (fun _ _ _ _ => none) p := cutsNil (by kernel_rfl)
theorem place_kinds_ok : SigOk Try.prog 32 place_kinds_S ∧ Bodied Try.prog 32 :=
  ⟨fn_sound (s := place_kinds_S) (T := []) (Λ := fun _ _ _ _ => none) 0 Try.func32 (c := bodyOf Try.f32) (by kernel_rfl) (by kernel_rfl) lkΓ_nil (by decide +kernel) (by decide +kernel) (fun _ _ _ => rfl) place_kinds_cuts (fun x => place_kinds_run  x), bodied_of Try.func32 (by decide +kernel) (by decide +kernel)⟩

/-! tendril/place.Size -/
def place_Size (x : Int × Int × Int × Int × Int) : Option (Int) :=
  (place_Check ((x.1, x.snd.1, x.snd.snd.1, x.snd.snd.snd.1, x.snd.snd.snd.2))).bind fun r0 =>
  bif r0 != (0 : Int) then
    some ((0 : Int))
  else
    (place_kinds ((x.1, x.snd.1, x.snd.snd.1, x.snd.snd.snd.1, x.snd.snd.snd.2))).bind fun r1 =>
    some (r1.snd.snd.snd.snd.snd.2)
def place_Size_S : Sig := ⟨[⟨true, (.pair .int (.pair .int (.pair .int (.pair .int .int))))⟩], [⟨false, .int⟩], false, place_Size⟩
set_option maxRecDepth 100000 in
theorem place_Size_run (x : Tup [⟨true, (.pair .int (.pair .int (.pair .int (.pair .int .int))))⟩]) : (pxFn Try.prog (lkΓ [(23, place_Check_S), (32, place_kinds_S)]) [] Try.f18 (bodyOf Try.f18) false [⟨false, .int⟩] (encTup [⟨true, (.pair .int (.pair .int (.pair .int (.pair .int .int))))⟩] x)).run (fun _ _ _ => none) = place_Size x := by kernel_rfl
theorem place_Size_cuts : ∀ p ∈ cuts Try.prog (lkΓ [(23, place_Check_S), (32, place_kinds_S)]) Try.f18.ntmps [] (bodyOf Try.f18) (κ0 Try.prog Try.f18 false [⟨false, .int⟩]), CutOk (fun _ _ _ _ => none) p := cutsNil (by kernel_rfl)
theorem place_Size_ok : SigOk Try.prog 18 place_Size_S ∧ Bodied Try.prog 18 :=
  ⟨fn_sound (s := place_Size_S) (T := []) (Λ := fun _ _ _ _ => none) 0 Try.func18 (c := bodyOf Try.f18) (by kernel_rfl) (by kernel_rfl) (lkΓ_cons (g := 23) (s0 := place_Check_S) place_Check_ok (lkΓ_cons (g := 32) (s0 := place_kinds_S) place_kinds_ok lkΓ_nil)) (by decide +kernel) (by decide +kernel) (fun _ _ _ => rfl) place_Size_cuts (fun x => place_Size_run  x), bodied_of Try.func18 (by decide +kernel) (by decide +kernel)⟩

/-! tendril/tag.Unpack -/
def tag_Unpack (x : Int) : Option (Int × Int × Int) :=
  bif Decidable.decide (x < (1 : Int)) then
    some (((0 : Int), (0 : Int), (1 : Int)))
  else
    bif Decidable.decide ((1099511627776 : Int) ≤ (Go.RowKit.wrap64 (x - (1 : Int))).fdiv ((2 : Int) ^ Min.min (Int.toNat (10 : Int)) Go.IntKind.i64.bits)) then
      some (((0 : Int), (0 : Int), (1 : Int)))
    else
      some ((Go.bits Go.BinOp.and Go.IntKind.i64 (Go.RowKit.wrap64 (x - (1 : Int))) (1023 : Int), (Go.RowKit.wrap64 (x - (1 : Int))).fdiv ((2 : Int) ^ Min.min (Int.toNat (10 : Int)) Go.IntKind.i64.bits), (0 : Int)))
def tag_Unpack_S : Sig := ⟨[⟨false, .int⟩], [⟨false, .int⟩, ⟨false, .int⟩, ⟨false, .int⟩], false, tag_Unpack⟩
set_option maxRecDepth 100000 in
theorem tag_Unpack_run (x : Tup [⟨false, .int⟩]) : (pxFn Try.prog (lkΓ []) [] Try.f35 (bodyOf Try.f35) false [⟨false, .int⟩, ⟨false, .int⟩, ⟨false, .int⟩] (encTup [⟨false, .int⟩] x)).run (fun _ _ _ => none) = tag_Unpack x := by kernel_rfl
theorem tag_Unpack_cuts : ∀ p ∈ cuts Try.prog (lkΓ []) Try.f35.ntmps [] (bodyOf Try.f35) (κ0 Try.prog Try.f35 false [⟨false, .int⟩, ⟨false, .int⟩, ⟨false, .int⟩]), CutOk (fun _ _ _ _ => none) p := cutsNil (by kernel_rfl)
theorem tag_Unpack_ok : SigOk Try.prog 35 tag_Unpack_S ∧ Bodied Try.prog 35 :=
  ⟨fn_sound (s := tag_Unpack_S) (T := []) (Λ := fun _ _ _ _ => none) 0 Try.func35 (c := bodyOf Try.f35) (by kernel_rfl) (by kernel_rfl) lkΓ_nil (by decide +kernel) (by decide +kernel) (fun _ _ _ => rfl) tag_Unpack_cuts (fun x => tag_Unpack_run  x), bodied_of Try.func35 (by decide +kernel) (by decide +kernel)⟩

/-! tendril/place.Field -/
def place_Field (x : (Int × Int × Int × Int × Int) × Int × Int × Int) : Option (Int × Int) :=
  (place_Check ((x.fst.1, x.fst.snd.1, x.fst.snd.snd.1, x.fst.snd.snd.snd.1, x.fst.snd.snd.snd.2))).bind fun r0 =>
  bif r0 != (0 : Int) then
    some (((0 : Int), (1 : Int)))
  else
    bif Decidable.decide (x.snd.1 < (1 : Int)) then
      some (((0 : Int), (1 : Int)))
    else
      bif Decidable.decide ((3 : Int) < x.snd.1) then
        some (((0 : Int), (1 : Int)))
      else
        (place_kinds ((x.fst.1, x.fst.snd.1, x.fst.snd.snd.1, x.fst.snd.snd.snd.1, x.fst.snd.snd.snd.2))).bind fun r1 =>
        bif Decidable.decide (x.snd.1 = (↑(nat_lit 4) : Int)) then
          bif Decidable.decide (x.snd.snd.1 < (0 : Int)) then
            some (((0 : Int), (1 : Int)))
          else
            bif Decidable.decide (r1.snd.snd.snd.snd.1 ≤ x.snd.snd.1) then
              some (((0 : Int), (1 : Int)))
            else
              bif Decidable.decide (x.snd.snd.2 < (0 : Int)) then
                some (((0 : Int), (1 : Int)))
              else
                bif Decidable.decide (r1.snd.snd.snd.snd.snd.1 ≤ x.snd.snd.2) then
                  some (((0 : Int), (1 : Int)))
                else
                  some ((Go.RowKit.wrap64 (Go.RowKit.wrap64 (r1.snd.snd.snd.snd.snd.2 + Go.RowKit.wrap64 (x.snd.snd.1 * r1.snd.snd.snd.snd.snd.1)) + x.snd.snd.2), (0 : Int)))
        else
          bif Decidable.decide (x.snd.1 = (↑(nat_lit 3) : Int)) then
            bif Decidable.decide (x.snd.snd.1 < (0 : Int)) then
              some (((0 : Int), (1 : Int)))
            else
              bif Decidable.decide (r1.snd.snd.snd.fst.1 ≤ x.snd.snd.1) then
                some (((0 : Int), (1 : Int)))
              else
                bif Decidable.decide (x.snd.snd.2 < (0 : Int)) then
                  some (((0 : Int), (1 : Int)))
                else
                  bif Decidable.decide (r1.snd.snd.snd.fst.snd.1 ≤ x.snd.snd.2) then
                    some (((0 : Int), (1 : Int)))
                  else
                    some ((Go.RowKit.wrap64 (Go.RowKit.wrap64 (r1.snd.snd.snd.fst.snd.2 + Go.RowKit.wrap64 (x.snd.snd.1 * r1.snd.snd.snd.fst.snd.1)) + x.snd.snd.2), (0 : Int)))
          else
            bif Decidable.decide (x.snd.1 = (↑(nat_lit 2) : Int)) then
              bif Decidable.decide (x.snd.snd.1 < (0 : Int)) then
                some (((0 : Int), (1 : Int)))
              else
                bif Decidable.decide (r1.snd.snd.fst.1 ≤ x.snd.snd.1) then
                  some (((0 : Int), (1 : Int)))
                else
                  bif Decidable.decide (x.snd.snd.2 < (0 : Int)) then
                    some (((0 : Int), (1 : Int)))
                  else
                    bif Decidable.decide (r1.snd.snd.fst.snd.1 ≤ x.snd.snd.2) then
                      some (((0 : Int), (1 : Int)))
                    else
                      some ((Go.RowKit.wrap64 (Go.RowKit.wrap64 (r1.snd.snd.fst.snd.2 + Go.RowKit.wrap64 (x.snd.snd.1 * r1.snd.snd.fst.snd.1)) + x.snd.snd.2), (0 : Int)))
            else
              bif Decidable.decide (x.snd.1 = (↑(nat_lit 1) : Int)) then
                bif Decidable.decide (x.snd.snd.1 < (0 : Int)) then
                  some (((0 : Int), (1 : Int)))
                else
                  bif Decidable.decide (r1.snd.fst.1 ≤ x.snd.snd.1) then
                    some (((0 : Int), (1 : Int)))
                  else
                    bif Decidable.decide (x.snd.snd.2 < (0 : Int)) then
                      some (((0 : Int), (1 : Int)))
                    else
                      bif Decidable.decide (r1.snd.fst.snd.1 ≤ x.snd.snd.2) then
                        some (((0 : Int), (1 : Int)))
                      else
                        some ((Go.RowKit.wrap64 (Go.RowKit.wrap64 (r1.snd.fst.snd.2 + Go.RowKit.wrap64 (x.snd.snd.1 * r1.snd.fst.snd.1)) + x.snd.snd.2), (0 : Int)))
              else
                bif Decidable.decide (x.snd.1 = (↑(nat_lit 0) : Int)) then
                  bif Decidable.decide (x.snd.snd.1 < (0 : Int)) then
                    some (((0 : Int), (1 : Int)))
                  else
                    bif Decidable.decide (r1.fst.1 ≤ x.snd.snd.1) then
                      some (((0 : Int), (1 : Int)))
                    else
                      bif Decidable.decide (x.snd.snd.2 < (0 : Int)) then
                        some (((0 : Int), (1 : Int)))
                      else
                        bif Decidable.decide (r1.fst.snd.1 ≤ x.snd.snd.2) then
                          some (((0 : Int), (1 : Int)))
                        else
                          some ((Go.RowKit.wrap64 (Go.RowKit.wrap64 (r1.fst.snd.2 + Go.RowKit.wrap64 (x.snd.snd.1 * r1.fst.snd.1)) + x.snd.snd.2), (0 : Int)))
                else
                  none
def place_Field_S : Sig := ⟨[⟨true, (.pair .int (.pair .int (.pair .int (.pair .int .int))))⟩, ⟨false, .int⟩, ⟨false, .int⟩, ⟨false, .int⟩], [⟨false, .int⟩, ⟨false, .int⟩], false, place_Field⟩
set_option maxRecDepth 100000 in
theorem place_Field_run (x : Tup [⟨true, (.pair .int (.pair .int (.pair .int (.pair .int .int))))⟩, ⟨false, .int⟩, ⟨false, .int⟩, ⟨false, .int⟩]) : (pxFn Try.prog (lkΓ [(23, place_Check_S), (32, place_kinds_S)]) [] Try.f36 (bodyOf Try.f36) false [⟨false, .int⟩, ⟨false, .int⟩] (encTup [⟨true, (.pair .int (.pair .int (.pair .int (.pair .int .int))))⟩, ⟨false, .int⟩, ⟨false, .int⟩, ⟨false, .int⟩] x)).run (fun _ _ _ => none) = place_Field x := by kernel_rfl
theorem place_Field_cuts : ∀ p ∈ cuts Try.prog (lkΓ [(23, place_Check_S), (32, place_kinds_S)]) Try.f36.ntmps [] (bodyOf Try.f36) (κ0 Try.prog Try.f36 false [⟨false, .int⟩, ⟨false, .int⟩]), CutOk (fun _ _ _ _ => none) p := cutsNil (by kernel_rfl)
theorem place_Field_ok : SigOk Try.prog 36 place_Field_S ∧ Bodied Try.prog 36 :=
  ⟨fn_sound (s := place_Field_S) (T := []) (Λ := fun _ _ _ _ => none) 0 Try.func36 (c := bodyOf Try.f36) (by kernel_rfl) (by kernel_rfl) (lkΓ_cons (g := 23) (s0 := place_Check_S) place_Check_ok (lkΓ_cons (g := 32) (s0 := place_kinds_S) place_kinds_ok lkΓ_nil)) (by decide +kernel) (by decide +kernel) (fun _ _ _ => rfl) place_Field_cuts (fun x => place_Field_run  x), bodied_of Try.func36 (by decide +kernel) (by decide +kernel)⟩

/-! tendril/chain.where -/
def chain_where (x : (Int × Int × Int × Int × Int) × List Int × Int × Int × Int) : Option (Int × Int) :=
  (tag_Unpack (x.snd.snd.snd.1)).bind fun r0 =>
  bif r0.snd.2 != (0 : Int) then
    some (((0 : Int), (1 : Int)))
  else
    (place_Size ((x.fst.1, x.fst.snd.1, x.fst.snd.snd.1, x.fst.snd.snd.snd.1, x.fst.snd.snd.snd.2))).bind fun r1 =>
    bif (↑(List.length x.snd.1) : Int) != r1 then
      some (((0 : Int), (1 : Int)))
    else
      (place_Field (((x.fst.1, x.fst.snd.1, x.fst.snd.snd.1, x.fst.snd.snd.snd.1, x.fst.snd.snd.snd.2), x.snd.snd.1, r0.1, x.snd.snd.snd.2))).bind fun r2 =>
      some ((r2.1, r2.2))
def chain_where_S : Sig := ⟨[⟨true, (.pair .int (.pair .int (.pair .int (.pair .int .int))))⟩, ⟨false, (.sl .int)⟩, ⟨false, .int⟩, ⟨false, .int⟩, ⟨false, .int⟩], [⟨false, .int⟩, ⟨false, .int⟩], false, chain_where⟩
set_option maxRecDepth 100000 in
theorem chain_where_run (x : Tup [⟨true, (.pair .int (.pair .int (.pair .int (.pair .int .int))))⟩, ⟨false, (.sl .int)⟩, ⟨false, .int⟩, ⟨false, .int⟩, ⟨false, .int⟩]) : (pxFn Try.prog (lkΓ [(18, place_Size_S), (35, tag_Unpack_S), (36, place_Field_S)]) [] Try.f28 (bodyOf Try.f28) false [⟨false, .int⟩, ⟨false, .int⟩] (encTup [⟨true, (.pair .int (.pair .int (.pair .int (.pair .int .int))))⟩, ⟨false, (.sl .int)⟩, ⟨false, .int⟩, ⟨false, .int⟩, ⟨false, .int⟩] x)).run (fun _ _ _ => none) = chain_where x := by kernel_rfl
theorem chain_where_cuts : ∀ p ∈ cuts Try.prog (lkΓ [(18, place_Size_S), (35, tag_Unpack_S), (36, place_Field_S)]) Try.f28.ntmps [] (bodyOf Try.f28) (κ0 Try.prog Try.f28 false [⟨false, .int⟩, ⟨false, .int⟩]), CutOk (fun _ _ _ _ => none) p := cutsNil (by kernel_rfl)
theorem chain_where_ok : SigOk Try.prog 28 chain_where_S ∧ Bodied Try.prog 28 :=
  ⟨fn_sound (s := chain_where_S) (T := []) (Λ := fun _ _ _ _ => none) 0 Try.func28 (c := bodyOf Try.f28) (by kernel_rfl) (by kernel_rfl) (lkΓ_cons (g := 18) (s0 := place_Size_S) place_Size_ok (lkΓ_cons (g := 35) (s0 := tag_Unpack_S) tag_Unpack_ok (lkΓ_cons (g := 36) (s0 := place_Field_S) place_Field_ok lkΓ_nil))) (by decide +kernel) (by decide +kernel) (fun _ _ _ => rfl) chain_where_cuts (fun x => chain_where_run  x), bodied_of Try.func28 (by decide +kernel) (by decide +kernel)⟩

/-! tendril/mem.in -/
def mem_in (x : List Int × Int) : Option (Bool) :=
  bif Decidable.decide ((0 : Int) ≤ x.2) then
    some (Decidable.decide (x.2 < (↑(List.length x.1) : Int)))
  else
    some (Bool.false)
def mem_in_S : Sig := ⟨[⟨false, (.sl .int)⟩, ⟨false, .int⟩], [⟨false, .bool⟩], false, mem_in⟩
set_option maxRecDepth 100000 in
theorem mem_in_run (x : Tup [⟨false, (.sl .int)⟩, ⟨false, .int⟩]) : (pxFn Try.prog (lkΓ []) [] Try.f37 (bodyOf Try.f37) false [⟨false, .bool⟩] (encTup [⟨false, (.sl .int)⟩, ⟨false, .int⟩] x)).run (fun _ _ _ => none) = mem_in x := by kernel_rfl
theorem mem_in_cuts : ∀ p ∈ cuts Try.prog (lkΓ []) Try.f37.ntmps [] (bodyOf Try.f37) (κ0 Try.prog Try.f37 false [⟨false, .bool⟩]), CutOk (fun _ _ _ _ => none) p := cutsNil (by kernel_rfl)
theorem mem_in_ok : SigOk Try.prog 37 mem_in_S ∧ Bodied Try.prog 37 :=
  ⟨fn_sound (s := mem_in_S) (T := []) (Λ := fun _ _ _ _ => none) 0 Try.func37 (c := bodyOf Try.f37) (by kernel_rfl) (by kernel_rfl) lkΓ_nil (by decide +kernel) (by decide +kernel) (fun _ _ _ => rfl) mem_in_cuts (fun x => mem_in_run  x), bodied_of Try.func37 (by decide +kernel) (by decide +kernel)⟩

/-! tendril/mem.Load -/
def mem_Load (x : List Int × Int) : Option (Int × Int) :=
  (mem_in ((x.1, x.2))).bind fun r0 =>
  bif !r0 then
    some (((0 : Int), (1 : Int)))
  else
    bif Decidable.decide ((0 : Int) ≤ x.2) then
      bif Decidable.decide (x.2 < (↑(List.length x.1) : Int)) then
        some ((List.getD x.1 (Int.toNat x.2) (0 : Int), (0 : Int)))
      else
        none
    else
      none
def mem_Load_S : Sig := ⟨[⟨false, (.sl .int)⟩, ⟨false, .int⟩], [⟨false, .int⟩, ⟨false, .int⟩], false, mem_Load⟩
set_option maxRecDepth 100000 in
theorem mem_Load_run (x : Tup [⟨false, (.sl .int)⟩, ⟨false, .int⟩]) : (pxFn Try.prog (lkΓ [(37, mem_in_S)]) [] Try.f29 (bodyOf Try.f29) false [⟨false, .int⟩, ⟨false, .int⟩] (encTup [⟨false, (.sl .int)⟩, ⟨false, .int⟩] x)).run (fun _ _ _ => none) = mem_Load x := by kernel_rfl
theorem mem_Load_cuts : ∀ p ∈ cuts Try.prog (lkΓ [(37, mem_in_S)]) Try.f29.ntmps [] (bodyOf Try.f29) (κ0 Try.prog Try.f29 false [⟨false, .int⟩, ⟨false, .int⟩]), CutOk (fun _ _ _ _ => none) p := cutsNil (by kernel_rfl)
theorem mem_Load_ok : SigOk Try.prog 29 mem_Load_S ∧ Bodied Try.prog 29 :=
  ⟨fn_sound (s := mem_Load_S) (T := []) (Λ := fun _ _ _ _ => none) 0 Try.func29 (c := bodyOf Try.f29) (by kernel_rfl) (by kernel_rfl) (lkΓ_cons (g := 37) (s0 := mem_in_S) mem_in_ok lkΓ_nil) (by decide +kernel) (by decide +kernel) (fun _ _ _ => rfl) mem_Load_cuts (fun x => mem_Load_run  x), bodied_of Try.func29 (by decide +kernel) (by decide +kernel)⟩

/-! tendril/chain.Field -/
def chain_Field (x : (Int × Int × Int × Int × Int) × List Int × Int × Int × Int) : Option (Int × Int) :=
  (chain_where (((x.fst.1, x.fst.snd.1, x.fst.snd.snd.1, x.fst.snd.snd.snd.1, x.fst.snd.snd.snd.2), x.snd.1, x.snd.snd.1, x.snd.snd.snd.1, x.snd.snd.snd.2))).bind fun r0 =>
  bif r0.2 != (0 : Int) then
    some (((0 : Int), r0.2))
  else
    (mem_Load ((x.snd.1, r0.1))).bind fun r1 =>
    some ((r1.1, r1.2))
def chain_Field_S : Sig := ⟨[⟨true, (.pair .int (.pair .int (.pair .int (.pair .int .int))))⟩, ⟨false, (.sl .int)⟩, ⟨false, .int⟩, ⟨false, .int⟩, ⟨false, .int⟩], [⟨false, .int⟩, ⟨false, .int⟩], false, chain_Field⟩
set_option maxRecDepth 100000 in
theorem chain_Field_run (x : Tup [⟨true, (.pair .int (.pair .int (.pair .int (.pair .int .int))))⟩, ⟨false, (.sl .int)⟩, ⟨false, .int⟩, ⟨false, .int⟩, ⟨false, .int⟩]) : (pxFn Try.prog (lkΓ [(28, chain_where_S), (29, mem_Load_S)]) [] Try.f12 (bodyOf Try.f12) false [⟨false, .int⟩, ⟨false, .int⟩] (encTup [⟨true, (.pair .int (.pair .int (.pair .int (.pair .int .int))))⟩, ⟨false, (.sl .int)⟩, ⟨false, .int⟩, ⟨false, .int⟩, ⟨false, .int⟩] x)).run (fun _ _ _ => none) = chain_Field x := by kernel_rfl
theorem chain_Field_cuts : ∀ p ∈ cuts Try.prog (lkΓ [(28, chain_where_S), (29, mem_Load_S)]) Try.f12.ntmps [] (bodyOf Try.f12) (κ0 Try.prog Try.f12 false [⟨false, .int⟩, ⟨false, .int⟩]), CutOk (fun _ _ _ _ => none) p := cutsNil (by kernel_rfl)
theorem chain_Field_ok : SigOk Try.prog 12 chain_Field_S ∧ Bodied Try.prog 12 :=
  ⟨fn_sound (s := chain_Field_S) (T := []) (Λ := fun _ _ _ _ => none) 0 Try.func12 (c := bodyOf Try.f12) (by kernel_rfl) (by kernel_rfl) (lkΓ_cons (g := 28) (s0 := chain_where_S) chain_where_ok (lkΓ_cons (g := 29) (s0 := mem_Load_S) mem_Load_ok lkΓ_nil)) (by decide +kernel) (by decide +kernel) (fun _ _ _ => rfl) chain_Field_cuts (fun x => chain_Field_run  x), bodied_of Try.func12 (by decide +kernel) (by decide +kernel)⟩

end Go.Proofs.YthnbleblmpnfhaaFn
