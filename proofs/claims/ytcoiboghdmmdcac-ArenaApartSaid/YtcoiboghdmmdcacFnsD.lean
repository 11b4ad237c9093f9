/- What the functions that this seat's laws reach compute, as plain functions, the last of them; no condition. -/
import Derived.Test.YtcoiboghdmmdcacProg
import Derived.KernelRfl
import Derived.Test.YtcoiboghdmmdcacPx25
import Derived.Test.YtcoiboghdmmdcacFnsDa
set_option linter.unusedVariables false
set_option linter.unusedSimpArgs false
namespace Go.Proofs.YtcoiboghdmmdcacFn
open Go Go.RowKit Go.Proofs.YtcoiboghdmmdcacPx
/-! tendril/tendrilref07.Retire -/
def tendrilref07_Retire (x : (List Int × List Int × ((List Int × List Int × List Int × List Int) × (List Int × List Int × List Int × List Int) × List Int × List Int × List Int × List Int) × Int × List Int) × Int × Int) : Option ((List Int × List Int × ((List Int × List Int × List Int × List Int) × (List Int × List Int × List Int × List Int) × List Int × List Int × List Int × List Int) × Int × List Int) × Int) :=
  (tendrilref07_Check ((x.fst.1, x.fst.snd.1, ((x.fst.snd.snd.fst.fst.1, x.fst.snd.snd.fst.fst.snd.1, x.fst.snd.snd.fst.fst.snd.snd.1, x.fst.snd.snd.fst.fst.snd.snd.2), (x.fst.snd.snd.fst.snd.fst.1, x.fst.snd.snd.fst.snd.fst.snd.1, x.fst.snd.snd.fst.snd.fst.snd.snd.1, x.fst.snd.snd.fst.snd.fst.snd.snd.2), x.fst.snd.snd.fst.snd.snd.1, x.fst.snd.snd.fst.snd.snd.snd.1, x.fst.snd.snd.fst.snd.snd.snd.snd.1, x.fst.snd.snd.fst.snd.snd.snd.snd.2), x.fst.snd.snd.snd.1, x.fst.snd.snd.snd.2))).bind fun r0 =>
  bif r0 != (0 : Int) then
    some ((([], [], (([], [], [], []), ([], [], [], []), [], [], [], []), (0 : Int), []), (1 : Int)))
  else
    (tendrilref07_kind (x.snd.1)).bind fun r1 =>
    bif !r1 then
      some ((([], [], (([], [], [], []), ([], [], [], []), [], [], [], []), (0 : Int), []), (1 : Int)))
    else
      bif Decidable.decide (Go.RowKit.wrap64 (x.snd.1 - (1 : Int)) = (↑(nat_lit 2) : Int)) then
        (tendrilref05_Retire (((x.fst.snd.snd.fst.snd.snd.1, x.fst.snd.snd.fst.snd.snd.snd.1, x.fst.snd.snd.fst.snd.snd.snd.snd.1, x.fst.snd.snd.fst.snd.snd.snd.snd.2), x.snd.2, x.fst.snd.snd.snd.1))).bind fun r2 =>
        bif r2.2 != (0 : Int) then
          some ((([], [], (([], [], [], []), ([], [], [], []), [], [], [], []), (0 : Int), []), r2.2))
        else
          bif Decidable.decide (Go.RowKit.wrap64 (x.snd.1 - (1 : Int)) = (↑(nat_lit 2) : Int)) then
            some (((x.fst.1, x.fst.snd.1, ((x.fst.snd.snd.fst.fst.1, x.fst.snd.snd.fst.fst.snd.1, x.fst.snd.snd.fst.fst.snd.snd.1, x.fst.snd.snd.fst.fst.snd.snd.2), (x.fst.snd.snd.fst.snd.fst.1, x.fst.snd.snd.fst.snd.fst.snd.1, x.fst.snd.snd.fst.snd.fst.snd.snd.1, x.fst.snd.snd.fst.snd.fst.snd.snd.2), r2.fst.1, r2.fst.snd.1, r2.fst.snd.snd.1, r2.fst.snd.snd.2), x.fst.snd.snd.snd.1, x.fst.snd.snd.snd.2), (0 : Int)))
          else
            bif Decidable.decide (Go.RowKit.wrap64 (x.snd.1 - (1 : Int)) = (↑(nat_lit 1) : Int)) then
              some (((x.fst.1, x.fst.snd.1, ((x.fst.snd.snd.fst.fst.1, x.fst.snd.snd.fst.fst.snd.1, x.fst.snd.snd.fst.fst.snd.snd.1, x.fst.snd.snd.fst.fst.snd.snd.2), (r2.fst.1, r2.fst.snd.1, r2.fst.snd.snd.1, r2.fst.snd.snd.2), x.fst.snd.snd.fst.snd.snd.1, x.fst.snd.snd.fst.snd.snd.snd.1, x.fst.snd.snd.fst.snd.snd.snd.snd.1, x.fst.snd.snd.fst.snd.snd.snd.snd.2), x.fst.snd.snd.snd.1, x.fst.snd.snd.snd.2), (0 : Int)))
            else
              bif Decidable.decide (Go.RowKit.wrap64 (x.snd.1 - (1 : Int)) = (↑(nat_lit 0) : Int)) then
                some (((x.fst.1, x.fst.snd.1, ((r2.fst.1, r2.fst.snd.1, r2.fst.snd.snd.1, r2.fst.snd.snd.2), (x.fst.snd.snd.fst.snd.fst.1, x.fst.snd.snd.fst.snd.fst.snd.1, x.fst.snd.snd.fst.snd.fst.snd.snd.1, x.fst.snd.snd.fst.snd.fst.snd.snd.2), x.fst.snd.snd.fst.snd.snd.1, x.fst.snd.snd.fst.snd.snd.snd.1, x.fst.snd.snd.fst.snd.snd.snd.snd.1, x.fst.snd.snd.fst.snd.snd.snd.snd.2), x.fst.snd.snd.snd.1, x.fst.snd.snd.snd.2), (0 : Int)))
              else
                none
      else
        bif Decidable.decide (Go.RowKit.wrap64 (x.snd.1 - (1 : Int)) = (↑(nat_lit 1) : Int)) then
          (tendrilref05_Retire (((x.fst.snd.snd.fst.snd.fst.1, x.fst.snd.snd.fst.snd.fst.snd.1, x.fst.snd.snd.fst.snd.fst.snd.snd.1, x.fst.snd.snd.fst.snd.fst.snd.snd.2), x.snd.2, x.fst.snd.snd.snd.1))).bind fun r3 =>
          bif r3.2 != (0 : Int) then
            some ((([], [], (([], [], [], []), ([], [], [], []), [], [], [], []), (0 : Int), []), r3.2))
          else
            bif Decidable.decide (Go.RowKit.wrap64 (x.snd.1 - (1 : Int)) = (↑(nat_lit 2) : Int)) then
              some (((x.fst.1, x.fst.snd.1, ((x.fst.snd.snd.fst.fst.1, x.fst.snd.snd.fst.fst.snd.1, x.fst.snd.snd.fst.fst.snd.snd.1, x.fst.snd.snd.fst.fst.snd.snd.2), (x.fst.snd.snd.fst.snd.fst.1, x.fst.snd.snd.fst.snd.fst.snd.1, x.fst.snd.snd.fst.snd.fst.snd.snd.1, x.fst.snd.snd.fst.snd.fst.snd.snd.2), r3.fst.1, r3.fst.snd.1, r3.fst.snd.snd.1, r3.fst.snd.snd.2), x.fst.snd.snd.snd.1, x.fst.snd.snd.snd.2), (0 : Int)))
            else
              bif Decidable.decide (Go.RowKit.wrap64 (x.snd.1 - (1 : Int)) = (↑(nat_lit 1) : Int)) then
                some (((x.fst.1, x.fst.snd.1, ((x.fst.snd.snd.fst.fst.1, x.fst.snd.snd.fst.fst.snd.1, x.fst.snd.snd.fst.fst.snd.snd.1, x.fst.snd.snd.fst.fst.snd.snd.2), (r3.fst.1, r3.fst.snd.1, r3.fst.snd.snd.1, r3.fst.snd.snd.2), x.fst.snd.snd.fst.snd.snd.1, x.fst.snd.snd.fst.snd.snd.snd.1, x.fst.snd.snd.fst.snd.snd.snd.snd.1, x.fst.snd.snd.fst.snd.snd.snd.snd.2), x.fst.snd.snd.snd.1, x.fst.snd.snd.snd.2), (0 : Int)))
              else
                bif Decidable.decide (Go.RowKit.wrap64 (x.snd.1 - (1 : Int)) = (↑(nat_lit 0) : Int)) then
                  some (((x.fst.1, x.fst.snd.1, ((r3.fst.1, r3.fst.snd.1, r3.fst.snd.snd.1, r3.fst.snd.snd.2), (x.fst.snd.snd.fst.snd.fst.1, x.fst.snd.snd.fst.snd.fst.snd.1, x.fst.snd.snd.fst.snd.fst.snd.snd.1, x.fst.snd.snd.fst.snd.fst.snd.snd.2), x.fst.snd.snd.fst.snd.snd.1, x.fst.snd.snd.fst.snd.snd.snd.1, x.fst.snd.snd.fst.snd.snd.snd.snd.1, x.fst.snd.snd.fst.snd.snd.snd.snd.2), x.fst.snd.snd.snd.1, x.fst.snd.snd.snd.2), (0 : Int)))
                else
                  none
        else
          bif Decidable.decide (Go.RowKit.wrap64 (x.snd.1 - (1 : Int)) = (↑(nat_lit 0) : Int)) then
            (tendrilref05_Retire (((x.fst.snd.snd.fst.fst.1, x.fst.snd.snd.fst.fst.snd.1, x.fst.snd.snd.fst.fst.snd.snd.1, x.fst.snd.snd.fst.fst.snd.snd.2), x.snd.2, x.fst.snd.snd.snd.1))).bind fun r4 =>
            bif r4.2 != (0 : Int) then
              some ((([], [], (([], [], [], []), ([], [], [], []), [], [], [], []), (0 : Int), []), r4.2))
            else
              bif Decidable.decide (Go.RowKit.wrap64 (x.snd.1 - (1 : Int)) = (↑(nat_lit 2) : Int)) then
                some (((x.fst.1, x.fst.snd.1, ((x.fst.snd.snd.fst.fst.1, x.fst.snd.snd.fst.fst.snd.1, x.fst.snd.snd.fst.fst.snd.snd.1, x.fst.snd.snd.fst.fst.snd.snd.2), (x.fst.snd.snd.fst.snd.fst.1, x.fst.snd.snd.fst.snd.fst.snd.1, x.fst.snd.snd.fst.snd.fst.snd.snd.1, x.fst.snd.snd.fst.snd.fst.snd.snd.2), r4.fst.1, r4.fst.snd.1, r4.fst.snd.snd.1, r4.fst.snd.snd.2), x.fst.snd.snd.snd.1, x.fst.snd.snd.snd.2), (0 : Int)))
              else
                bif Decidable.decide (Go.RowKit.wrap64 (x.snd.1 - (1 : Int)) = (↑(nat_lit 1) : Int)) then
                  some (((x.fst.1, x.fst.snd.1, ((x.fst.snd.snd.fst.fst.1, x.fst.snd.snd.fst.fst.snd.1, x.fst.snd.snd.fst.fst.snd.snd.1, x.fst.snd.snd.fst.fst.snd.snd.2), (r4.fst.1, r4.fst.snd.1, r4.fst.snd.snd.1, r4.fst.snd.snd.2), x.fst.snd.snd.fst.snd.snd.1, x.fst.snd.snd.fst.snd.snd.snd.1, x.fst.snd.snd.fst.snd.snd.snd.snd.1, x.fst.snd.snd.fst.snd.snd.snd.snd.2), x.fst.snd.snd.snd.1, x.fst.snd.snd.snd.2), (0 : Int)))
                else
                  bif Decidable.decide (Go.RowKit.wrap64 (x.snd.1 - (1 : Int)) = (↑(nat_lit 0) : Int)) then
                    some (((x.fst.1, x.fst.snd.1, ((r4.fst.1, r4.fst.snd.1, r4.fst.snd.snd.1, r4.fst.snd.snd.2), (x.fst.snd.snd.fst.snd.fst.1, x.fst.snd.snd.fst.snd.fst.snd.1, x.fst.snd.snd.fst.snd.fst.snd.snd.1, x.fst.snd.snd.fst.snd.fst.snd.snd.2), x.fst.snd.snd.fst.snd.snd.1, x.fst.snd.snd.fst.snd.snd.snd.1, x.fst.snd.snd.fst.snd.snd.snd.snd.1, x.fst.snd.snd.fst.snd.snd.snd.snd.2), x.fst.snd.snd.snd.1, x.fst.snd.snd.snd.2), (0 : Int)))
                  else
                    none
          else
            none
def tendrilref07_Retire_S : Sig := ⟨[⟨true, (.pair (.sl .int) (.pair (.sl .int) (.pair (.pair (.pair (.sl .int) (.pair (.sl .int) (.pair (.sl .int) (.sl .int)))) (.pair (.pair (.sl .int) (.pair (.sl .int) (.pair (.sl .int) (.sl .int)))) (.pair (.sl .int) (.pair (.sl .int) (.pair (.sl .int) (.sl .int)))))) (.pair .int (.sl .int)))))⟩, ⟨false, .int⟩, ⟨false, .int⟩], [⟨true, (.pair (.sl .int) (.pair (.sl .int) (.pair (.pair (.pair (.sl .int) (.pair (.sl .int) (.pair (.sl .int) (.sl .int)))) (.pair (.pair (.sl .int) (.pair (.sl .int) (.pair (.sl .int) (.sl .int)))) (.pair (.sl .int) (.pair (.sl .int) (.pair (.sl .int) (.sl .int)))))) (.pair .int (.sl .int)))))⟩, ⟨false, .int⟩], false, tendrilref07_Retire⟩
/-! tendril/arena.Gen -/
def arena_Gen (x : (List Int × List Int × ((List Int × List Int × List Int × List Int) × (List Int × List Int × List Int × List Int) × List Int × List Int × List Int × List Int) × Int × List Int) × Int × Int) : Option (Int × Int × Int) :=
  (tag_Unpack (x.snd.2)).bind fun r0 =>
  bif r0.snd.2 != (0 : Int) then
    some (((0 : Int), (0 : Int), (1 : Int)))
  else
    (arena_may (((x.fst.1, x.fst.snd.1, ((x.fst.snd.snd.fst.fst.1, x.fst.snd.snd.fst.fst.snd.1, x.fst.snd.snd.fst.fst.snd.snd.1, x.fst.snd.snd.fst.fst.snd.snd.2), (x.fst.snd.snd.fst.snd.fst.1, x.fst.snd.snd.fst.snd.fst.snd.1, x.fst.snd.snd.fst.snd.fst.snd.snd.1, x.fst.snd.snd.fst.snd.fst.snd.snd.2), x.fst.snd.snd.fst.snd.snd.1, x.fst.snd.snd.fst.snd.snd.snd.1, x.fst.snd.snd.fst.snd.snd.snd.snd.1, x.fst.snd.snd.fst.snd.snd.snd.snd.2), x.fst.snd.snd.snd.1, x.fst.snd.snd.snd.2), x.snd.1))).bind fun r1 =>
    bif !r1 then
      some (((0 : Int), (0 : Int), (1 : Int)))
    else
      bif Decidable.decide (Go.RowKit.wrap64 (x.snd.1 - (1 : Int)) = (↑(nat_lit 2) : Int)) then
        bif Decidable.decide ((↑(List.length x.fst.snd.snd.fst.snd.snd.1) : Int) ≤ r0.1) then
          some (((0 : Int), (0 : Int), (1 : Int)))
        else
          bif Decidable.decide (Go.RowKit.wrap64 (x.snd.1 - (1 : Int)) = (↑(nat_lit 2) : Int)) then
            bif Decidable.decide ((0 : Int) ≤ r0.1) then
              bif Decidable.decide (r0.1 < (↑(List.length x.fst.snd.snd.fst.snd.snd.1) : Int)) then
                bif Decidable.decide ((0 : Int) ≤ r0.1) then
                  bif Decidable.decide (r0.1 < (↑(List.length x.fst.snd.snd.fst.snd.snd.snd.1) : Int)) then
                    some ((List.getD x.fst.snd.snd.fst.snd.snd.1 (Int.toNat r0.1) (0 : Int), List.getD x.fst.snd.snd.fst.snd.snd.snd.1 (Int.toNat r0.1) (0 : Int), (0 : Int)))
                  else
                    none
                else
                  none
              else
                none
            else
              none
          else
            bif Decidable.decide (Go.RowKit.wrap64 (x.snd.1 - (1 : Int)) = (↑(nat_lit 1) : Int)) then
              bif Decidable.decide ((0 : Int) ≤ r0.1) then
                bif Decidable.decide (r0.1 < (↑(List.length x.fst.snd.snd.fst.snd.fst.1) : Int)) then
                  bif Decidable.decide ((0 : Int) ≤ r0.1) then
                    bif Decidable.decide (r0.1 < (↑(List.length x.fst.snd.snd.fst.snd.fst.snd.1) : Int)) then
                      some ((List.getD x.fst.snd.snd.fst.snd.fst.1 (Int.toNat r0.1) (0 : Int), List.getD x.fst.snd.snd.fst.snd.fst.snd.1 (Int.toNat r0.1) (0 : Int), (0 : Int)))
                    else
                      none
                  else
                    none
                else
                  none
              else
                none
            else
              bif Decidable.decide (Go.RowKit.wrap64 (x.snd.1 - (1 : Int)) = (↑(nat_lit 0) : Int)) then
                bif Decidable.decide ((0 : Int) ≤ r0.1) then
                  bif Decidable.decide (r0.1 < (↑(List.length x.fst.snd.snd.fst.fst.1) : Int)) then
                    bif Decidable.decide ((0 : Int) ≤ r0.1) then
                      bif Decidable.decide (r0.1 < (↑(List.length x.fst.snd.snd.fst.fst.snd.1) : Int)) then
                        some ((List.getD x.fst.snd.snd.fst.fst.1 (Int.toNat r0.1) (0 : Int), List.getD x.fst.snd.snd.fst.fst.snd.1 (Int.toNat r0.1) (0 : Int), (0 : Int)))
                      else
                        none
                    else
                      none
                  else
                    none
                else
                  none
              else
                none
      else
        bif Decidable.decide (Go.RowKit.wrap64 (x.snd.1 - (1 : Int)) = (↑(nat_lit 1) : Int)) then
          bif Decidable.decide ((↑(List.length x.fst.snd.snd.fst.snd.fst.1) : Int) ≤ r0.1) then
            some (((0 : Int), (0 : Int), (1 : Int)))
          else
            bif Decidable.decide (Go.RowKit.wrap64 (x.snd.1 - (1 : Int)) = (↑(nat_lit 2) : Int)) then
              bif Decidable.decide ((0 : Int) ≤ r0.1) then
                bif Decidable.decide (r0.1 < (↑(List.length x.fst.snd.snd.fst.snd.snd.1) : Int)) then
                  bif Decidable.decide ((0 : Int) ≤ r0.1) then
                    bif Decidable.decide (r0.1 < (↑(List.length x.fst.snd.snd.fst.snd.snd.snd.1) : Int)) then
                      some ((List.getD x.fst.snd.snd.fst.snd.snd.1 (Int.toNat r0.1) (0 : Int), List.getD x.fst.snd.snd.fst.snd.snd.snd.1 (Int.toNat r0.1) (0 : Int), (0 : Int)))
                    else
                      none
                  else
                    none
                else
                  none
              else
                none
            else
              bif Decidable.decide (Go.RowKit.wrap64 (x.snd.1 - (1 : Int)) = (↑(nat_lit 1) : Int)) then
                bif Decidable.decide ((0 : Int) ≤ r0.1) then
                  bif Decidable.decide (r0.1 < (↑(List.length x.fst.snd.snd.fst.snd.fst.1) : Int)) then
                    bif Decidable.decide ((0 : Int) ≤ r0.1) then
                      bif Decidable.decide (r0.1 < (↑(List.length x.fst.snd.snd.fst.snd.fst.snd.1) : Int)) then
                        some ((List.getD x.fst.snd.snd.fst.snd.fst.1 (Int.toNat r0.1) (0 : Int), List.getD x.fst.snd.snd.fst.snd.fst.snd.1 (Int.toNat r0.1) (0 : Int), (0 : Int)))
                      else
                        none
                    else
                      none
                  else
                    none
                else
                  none
              else
                bif Decidable.decide (Go.RowKit.wrap64 (x.snd.1 - (1 : Int)) = (↑(nat_lit 0) : Int)) then
                  bif Decidable.decide ((0 : Int) ≤ r0.1) then
                    bif Decidable.decide (r0.1 < (↑(List.length x.fst.snd.snd.fst.fst.1) : Int)) then
                      bif Decidable.decide ((0 : Int) ≤ r0.1) then
                        bif Decidable.decide (r0.1 < (↑(List.length x.fst.snd.snd.fst.fst.snd.1) : Int)) then
                          some ((List.getD x.fst.snd.snd.fst.fst.1 (Int.toNat r0.1) (0 : Int), List.getD x.fst.snd.snd.fst.fst.snd.1 (Int.toNat r0.1) (0 : Int), (0 : Int)))
                        else
                          none
                      else
                        none
                    else
                      none
                  else
                    none
                else
                  none
        else
          bif Decidable.decide (Go.RowKit.wrap64 (x.snd.1 - (1 : Int)) = (↑(nat_lit 0) : Int)) then
            bif Decidable.decide ((↑(List.length x.fst.snd.snd.fst.fst.1) : Int) ≤ r0.1) then
              some (((0 : Int), (0 : Int), (1 : Int)))
            else
              bif Decidable.decide (Go.RowKit.wrap64 (x.snd.1 - (1 : Int)) = (↑(nat_lit 2) : Int)) then
                bif Decidable.decide ((0 : Int) ≤ r0.1) then
                  bif Decidable.decide (r0.1 < (↑(List.length x.fst.snd.snd.fst.snd.snd.1) : Int)) then
                    bif Decidable.decide ((0 : Int) ≤ r0.1) then
                      bif Decidable.decide (r0.1 < (↑(List.length x.fst.snd.snd.fst.snd.snd.snd.1) : Int)) then
                        some ((List.getD x.fst.snd.snd.fst.snd.snd.1 (Int.toNat r0.1) (0 : Int), List.getD x.fst.snd.snd.fst.snd.snd.snd.1 (Int.toNat r0.1) (0 : Int), (0 : Int)))
                      else
                        none
                    else
                      none
                  else
                    none
                else
                  none
              else
                bif Decidable.decide (Go.RowKit.wrap64 (x.snd.1 - (1 : Int)) = (↑(nat_lit 1) : Int)) then
                  bif Decidable.decide ((0 : Int) ≤ r0.1) then
                    bif Decidable.decide (r0.1 < (↑(List.length x.fst.snd.snd.fst.snd.fst.1) : Int)) then
                      bif Decidable.decide ((0 : Int) ≤ r0.1) then
                        bif Decidable.decide (r0.1 < (↑(List.length x.fst.snd.snd.fst.snd.fst.snd.1) : Int)) then
                          some ((List.getD x.fst.snd.snd.fst.snd.fst.1 (Int.toNat r0.1) (0 : Int), List.getD x.fst.snd.snd.fst.snd.fst.snd.1 (Int.toNat r0.1) (0 : Int), (0 : Int)))
                        else
                          none
                      else
                        none
                    else
                      none
                  else
                    none
                else
                  bif Decidable.decide (Go.RowKit.wrap64 (x.snd.1 - (1 : Int)) = (↑(nat_lit 0) : Int)) then
                    bif Decidable.decide ((0 : Int) ≤ r0.1) then
                      bif Decidable.decide (r0.1 < (↑(List.length x.fst.snd.snd.fst.fst.1) : Int)) then
                        bif Decidable.decide ((0 : Int) ≤ r0.1) then
                          bif Decidable.decide (r0.1 < (↑(List.length x.fst.snd.snd.fst.fst.snd.1) : Int)) then
                            some ((List.getD x.fst.snd.snd.fst.fst.1 (Int.toNat r0.1) (0 : Int), List.getD x.fst.snd.snd.fst.fst.snd.1 (Int.toNat r0.1) (0 : Int), (0 : Int)))
                          else
                            none
                        else
                          none
                      else
                        none
                    else
                      none
                  else
                    none
          else
            none
def arena_Gen_S : Sig := ⟨[⟨true, (.pair (.sl .int) (.pair (.sl .int) (.pair (.pair (.pair (.sl .int) (.pair (.sl .int) (.pair (.sl .int) (.sl .int)))) (.pair (.pair (.sl .int) (.pair (.sl .int) (.pair (.sl .int) (.sl .int)))) (.pair (.sl .int) (.pair (.sl .int) (.pair (.sl .int) (.sl .int)))))) (.pair .int (.sl .int)))))⟩, ⟨false, .int⟩, ⟨false, .int⟩], [⟨false, .int⟩, ⟨false, .int⟩, ⟨false, .int⟩], false, arena_Gen⟩
/-! tendril/tendrilref07.Gen -/
def tendrilref07_Gen (x : (List Int × List Int × ((List Int × List Int × List Int × List Int) × (List Int × List Int × List Int × List Int) × List Int × List Int × List Int × List Int) × Int × List Int) × Int × Int) : Option (Int × Int × Int) :=
  (tendrilref01_Unpack (x.snd.2)).bind fun r0 =>
  (tendrilref07_Check ((x.fst.1, x.fst.snd.1, ((x.fst.snd.snd.fst.fst.1, x.fst.snd.snd.fst.fst.snd.1, x.fst.snd.snd.fst.fst.snd.snd.1, x.fst.snd.snd.fst.fst.snd.snd.2), (x.fst.snd.snd.fst.snd.fst.1, x.fst.snd.snd.fst.snd.fst.snd.1, x.fst.snd.snd.fst.snd.fst.snd.snd.1, x.fst.snd.snd.fst.snd.fst.snd.snd.2), x.fst.snd.snd.fst.snd.snd.1, x.fst.snd.snd.fst.snd.snd.snd.1, x.fst.snd.snd.fst.snd.snd.snd.snd.1, x.fst.snd.snd.fst.snd.snd.snd.snd.2), x.fst.snd.snd.snd.1, x.fst.snd.snd.snd.2))).bind fun r1 =>
  bif r1 != (0 : Int) then
    some (((0 : Int), (0 : Int), (1 : Int)))
  else
    (tendrilref07_kind (x.snd.1)).bind fun r2 =>
    bif !r2 then
      some (((0 : Int), (0 : Int), (1 : Int)))
    else
      bif r0.snd.2 != (0 : Int) then
        some (((0 : Int), (0 : Int), (1 : Int)))
      else
        bif Decidable.decide (Go.RowKit.wrap64 (x.snd.1 - (1 : Int)) = (↑(nat_lit 2) : Int)) then
          bif Decidable.decide ((↑(List.length x.fst.snd.snd.fst.snd.snd.1) : Int) ≤ r0.1) then
            some (((0 : Int), (0 : Int), (1 : Int)))
          else
            bif Decidable.decide (Go.RowKit.wrap64 (x.snd.1 - (1 : Int)) = (↑(nat_lit 2) : Int)) then
              bif Decidable.decide ((0 : Int) ≤ r0.1) then
                bif Decidable.decide (r0.1 < (↑(List.length x.fst.snd.snd.fst.snd.snd.1) : Int)) then
                  bif Decidable.decide (Go.RowKit.wrap64 (x.snd.1 - (1 : Int)) = (↑(nat_lit 2) : Int)) then
                    bif Decidable.decide ((0 : Int) ≤ r0.1) then
                      bif Decidable.decide (r0.1 < (↑(List.length x.fst.snd.snd.fst.snd.snd.snd.1) : Int)) then
                        some ((List.getD x.fst.snd.snd.fst.snd.snd.1 (Int.toNat r0.1) (0 : Int), List.getD x.fst.snd.snd.fst.snd.snd.snd.1 (Int.toNat r0.1) (0 : Int), (0 : Int)))
                      else
                        none
                    else
                      none
                  else
                    bif Decidable.decide (Go.RowKit.wrap64 (x.snd.1 - (1 : Int)) = (↑(nat_lit 1) : Int)) then
                      bif Decidable.decide ((0 : Int) ≤ r0.1) then
                        bif Decidable.decide (r0.1 < (↑(List.length x.fst.snd.snd.fst.snd.fst.snd.1) : Int)) then
                          some ((List.getD x.fst.snd.snd.fst.snd.snd.1 (Int.toNat r0.1) (0 : Int), List.getD x.fst.snd.snd.fst.snd.fst.snd.1 (Int.toNat r0.1) (0 : Int), (0 : Int)))
                        else
                          none
                      else
                        none
                    else
                      bif Decidable.decide (Go.RowKit.wrap64 (x.snd.1 - (1 : Int)) = (↑(nat_lit 0) : Int)) then
                        bif Decidable.decide ((0 : Int) ≤ r0.1) then
                          bif Decidable.decide (r0.1 < (↑(List.length x.fst.snd.snd.fst.fst.snd.1) : Int)) then
                            some ((List.getD x.fst.snd.snd.fst.snd.snd.1 (Int.toNat r0.1) (0 : Int), List.getD x.fst.snd.snd.fst.fst.snd.1 (Int.toNat r0.1) (0 : Int), (0 : Int)))
                          else
                            none
                        else
                          none
                      else
                        none
                else
                  none
              else
                none
            else
              bif Decidable.decide (Go.RowKit.wrap64 (x.snd.1 - (1 : Int)) = (↑(nat_lit 1) : Int)) then
                bif Decidable.decide ((0 : Int) ≤ r0.1) then
                  bif Decidable.decide (r0.1 < (↑(List.length x.fst.snd.snd.fst.snd.fst.1) : Int)) then
                    bif Decidable.decide (Go.RowKit.wrap64 (x.snd.1 - (1 : Int)) = (↑(nat_lit 2) : Int)) then
                      bif Decidable.decide ((0 : Int) ≤ r0.1) then
                        bif Decidable.decide (r0.1 < (↑(List.length x.fst.snd.snd.fst.snd.snd.snd.1) : Int)) then
                          some ((List.getD x.fst.snd.snd.fst.snd.fst.1 (Int.toNat r0.1) (0 : Int), List.getD x.fst.snd.snd.fst.snd.snd.snd.1 (Int.toNat r0.1) (0 : Int), (0 : Int)))
                        else
                          none
                      else
                        none
                    else
                      bif Decidable.decide (Go.RowKit.wrap64 (x.snd.1 - (1 : Int)) = (↑(nat_lit 1) : Int)) then
                        bif Decidable.decide ((0 : Int) ≤ r0.1) then
                          bif Decidable.decide (r0.1 < (↑(List.length x.fst.snd.snd.fst.snd.fst.snd.1) : Int)) then
                            some ((List.getD x.fst.snd.snd.fst.snd.fst.1 (Int.toNat r0.1) (0 : Int), List.getD x.fst.snd.snd.fst.snd.fst.snd.1 (Int.toNat r0.1) (0 : Int), (0 : Int)))
                          else
                            none
                        else
                          none
                      else
                        bif Decidable.decide (Go.RowKit.wrap64 (x.snd.1 - (1 : Int)) = (↑(nat_lit 0) : Int)) then
                          bif Decidable.decide ((0 : Int) ≤ r0.1) then
                            bif Decidable.decide (r0.1 < (↑(List.length x.fst.snd.snd.fst.fst.snd.1) : Int)) then
                              some ((List.getD x.fst.snd.snd.fst.snd.fst.1 (Int.toNat r0.1) (0 : Int), List.getD x.fst.snd.snd.fst.fst.snd.1 (Int.toNat r0.1) (0 : Int), (0 : Int)))
                            else
                              none
                          else
                            none
                        else
                          none
                  else
                    none
                else
                  none
              else
                bif Decidable.decide (Go.RowKit.wrap64 (x.snd.1 - (1 : Int)) = (↑(nat_lit 0) : Int)) then
                  bif Decidable.decide ((0 : Int) ≤ r0.1) then
                    bif Decidable.decide (r0.1 < (↑(List.length x.fst.snd.snd.fst.fst.1) : Int)) then
                      bif Decidable.decide (Go.RowKit.wrap64 (x.snd.1 - (1 : Int)) = (↑(nat_lit 2) : Int)) then
                        bif Decidable.decide ((0 : Int) ≤ r0.1) then
                          bif Decidable.decide (r0.1 < (↑(List.length x.fst.snd.snd.fst.snd.snd.snd.1) : Int)) then
                            some ((List.getD x.fst.snd.snd.fst.fst.1 (Int.toNat r0.1) (0 : Int), List.getD x.fst.snd.snd.fst.snd.snd.snd.1 (Int.toNat r0.1) (0 : Int), (0 : Int)))
                          else
                            none
                        else
                          none
                      else
                        bif Decidable.decide (Go.RowKit.wrap64 (x.snd.1 - (1 : Int)) = (↑(nat_lit 1) : Int)) then
                          bif Decidable.decide ((0 : Int) ≤ r0.1) then
                            bif Decidable.decide (r0.1 < (↑(List.length x.fst.snd.snd.fst.snd.fst.snd.1) : Int)) then
                              some ((List.getD x.fst.snd.snd.fst.fst.1 (Int.toNat r0.1) (0 : Int), List.getD x.fst.snd.snd.fst.snd.fst.snd.1 (Int.toNat r0.1) (0 : Int), (0 : Int)))
                            else
                              none
                          else
                            none
                        else
                          bif Decidable.decide (Go.RowKit.wrap64 (x.snd.1 - (1 : Int)) = (↑(nat_lit 0) : Int)) then
                            bif Decidable.decide ((0 : Int) ≤ r0.1) then
                              bif Decidable.decide (r0.1 < (↑(List.length x.fst.snd.snd.fst.fst.snd.1) : Int)) then
                                some ((List.getD x.fst.snd.snd.fst.fst.1 (Int.toNat r0.1) (0 : Int), List.getD x.fst.snd.snd.fst.fst.snd.1 (Int.toNat r0.1) (0 : Int), (0 : Int)))
                              else
                                none
                            else
                              none
                          else
                            none
                    else
                      none
                  else
                    none
                else
                  none
        else
          bif Decidable.decide (Go.RowKit.wrap64 (x.snd.1 - (1 : Int)) = (↑(nat_lit 1) : Int)) then
            bif Decidable.decide ((↑(List.length x.fst.snd.snd.fst.snd.fst.1) : Int) ≤ r0.1) then
              some (((0 : Int), (0 : Int), (1 : Int)))
            else
              bif Decidable.decide (Go.RowKit.wrap64 (x.snd.1 - (1 : Int)) = (↑(nat_lit 2) : Int)) then
                bif Decidable.decide ((0 : Int) ≤ r0.1) then
                  bif Decidable.decide (r0.1 < (↑(List.length x.fst.snd.snd.fst.snd.snd.1) : Int)) then
                    bif Decidable.decide (Go.RowKit.wrap64 (x.snd.1 - (1 : Int)) = (↑(nat_lit 2) : Int)) then
                      bif Decidable.decide ((0 : Int) ≤ r0.1) then
                        bif Decidable.decide (r0.1 < (↑(List.length x.fst.snd.snd.fst.snd.snd.snd.1) : Int)) then
                          some ((List.getD x.fst.snd.snd.fst.snd.snd.1 (Int.toNat r0.1) (0 : Int), List.getD x.fst.snd.snd.fst.snd.snd.snd.1 (Int.toNat r0.1) (0 : Int), (0 : Int)))
                        else
                          none
                      else
                        none
                    else
                      bif Decidable.decide (Go.RowKit.wrap64 (x.snd.1 - (1 : Int)) = (↑(nat_lit 1) : Int)) then
                        bif Decidable.decide ((0 : Int) ≤ r0.1) then
                          bif Decidable.decide (r0.1 < (↑(List.length x.fst.snd.snd.fst.snd.fst.snd.1) : Int)) then
                            some ((List.getD x.fst.snd.snd.fst.snd.snd.1 (Int.toNat r0.1) (0 : Int), List.getD x.fst.snd.snd.fst.snd.fst.snd.1 (Int.toNat r0.1) (0 : Int), (0 : Int)))
                          else
                            none
                        else
                          none
                      else
                        bif Decidable.decide (Go.RowKit.wrap64 (x.snd.1 - (1 : Int)) = (↑(nat_lit 0) : Int)) then
                          bif Decidable.decide ((0 : Int) ≤ r0.1) then
                            bif Decidable.decide (r0.1 < (↑(List.length x.fst.snd.snd.fst.fst.snd.1) : Int)) then
                              some ((List.getD x.fst.snd.snd.fst.snd.snd.1 (Int.toNat r0.1) (0 : Int), List.getD x.fst.snd.snd.fst.fst.snd.1 (Int.toNat r0.1) (0 : Int), (0 : Int)))
                            else
                              none
                          else
                            none
                        else
                          none
                  else
                    none
                else
                  none
              else
                bif Decidable.decide (Go.RowKit.wrap64 (x.snd.1 - (1 : Int)) = (↑(nat_lit 1) : Int)) then
                  bif Decidable.decide ((0 : Int) ≤ r0.1) then
                    bif Decidable.decide (r0.1 < (↑(List.length x.fst.snd.snd.fst.snd.fst.1) : Int)) then
                      bif Decidable.decide (Go.RowKit.wrap64 (x.snd.1 - (1 : Int)) = (↑(nat_lit 2) : Int)) then
                        bif Decidable.decide ((0 : Int) ≤ r0.1) then
                          bif Decidable.decide (r0.1 < (↑(List.length x.fst.snd.snd.fst.snd.snd.snd.1) : Int)) then
                            some ((List.getD x.fst.snd.snd.fst.snd.fst.1 (Int.toNat r0.1) (0 : Int), List.getD x.fst.snd.snd.fst.snd.snd.snd.1 (Int.toNat r0.1) (0 : Int), (0 : Int)))
                          else
                            none
                        else
                          none
                      else
                        bif Decidable.decide (Go.RowKit.wrap64 (x.snd.1 - (1 : Int)) = (↑(nat_lit 1) : Int)) then
                          bif Decidable.decide ((0 : Int) ≤ r0.1) then
                            bif Decidable.decide (r0.1 < (↑(List.length x.fst.snd.snd.fst.snd.fst.snd.1) : Int)) then
                              some ((List.getD x.fst.snd.snd.fst.snd.fst.1 (Int.toNat r0.1) (0 : Int), List.getD x.fst.snd.snd.fst.snd.fst.snd.1 (Int.toNat r0.1) (0 : Int), (0 : Int)))
                            else
                              none
                          else
                            none
                        else
                          bif Decidable.decide (Go.RowKit.wrap64 (x.snd.1 - (1 : Int)) = (↑(nat_lit 0) : Int)) then
                            bif Decidable.decide ((0 : Int) ≤ r0.1) then
                              bif Decidable.decide (r0.1 < (↑(List.length x.fst.snd.snd.fst.fst.snd.1) : Int)) then
                                some ((List.getD x.fst.snd.snd.fst.snd.fst.1 (Int.toNat r0.1) (0 : Int), List.getD x.fst.snd.snd.fst.fst.snd.1 (Int.toNat r0.1) (0 : Int), (0 : Int)))
                              else
                                none
                            else
                              none
                          else
                            none
                    else
                      none
                  else
                    none
                else
                  bif Decidable.decide (Go.RowKit.wrap64 (x.snd.1 - (1 : Int)) = (↑(nat_lit 0) : Int)) then
                    bif Decidable.decide ((0 : Int) ≤ r0.1) then
                      bif Decidable.decide (r0.1 < (↑(List.length x.fst.snd.snd.fst.fst.1) : Int)) then
                        bif Decidable.decide (Go.RowKit.wrap64 (x.snd.1 - (1 : Int)) = (↑(nat_lit 2) : Int)) then
                          bif Decidable.decide ((0 : Int) ≤ r0.1) then
                            bif Decidable.decide (r0.1 < (↑(List.length x.fst.snd.snd.fst.snd.snd.snd.1) : Int)) then
                              some ((List.getD x.fst.snd.snd.fst.fst.1 (Int.toNat r0.1) (0 : Int), List.getD x.fst.snd.snd.fst.snd.snd.snd.1 (Int.toNat r0.1) (0 : Int), (0 : Int)))
                            else
                              none
                          else
                            none
                        else
                          bif Decidable.decide (Go.RowKit.wrap64 (x.snd.1 - (1 : Int)) = (↑(nat_lit 1) : Int)) then
                            bif Decidable.decide ((0 : Int) ≤ r0.1) then
                              bif Decidable.decide (r0.1 < (↑(List.length x.fst.snd.snd.fst.snd.fst.snd.1) : Int)) then
                                some ((List.getD x.fst.snd.snd.fst.fst.1 (Int.toNat r0.1) (0 : Int), List.getD x.fst.snd.snd.fst.snd.fst.snd.1 (Int.toNat r0.1) (0 : Int), (0 : Int)))
                              else
                                none
                            else
                              none
                          else
                            bif Decidable.decide (Go.RowKit.wrap64 (x.snd.1 - (1 : Int)) = (↑(nat_lit 0) : Int)) then
                              bif Decidable.decide ((0 : Int) ≤ r0.1) then
                                bif Decidable.decide (r0.1 < (↑(List.length x.fst.snd.snd.fst.fst.snd.1) : Int)) then
                                  some ((List.getD x.fst.snd.snd.fst.fst.1 (Int.toNat r0.1) (0 : Int), List.getD x.fst.snd.snd.fst.fst.snd.1 (Int.toNat r0.1) (0 : Int), (0 : Int)))
                                else
                                  none
                              else
                                none
                            else
                              none
                      else
                        none
                    else
                      none
                  else
                    none
          else
            bif Decidable.decide (Go.RowKit.wrap64 (x.snd.1 - (1 : Int)) = (↑(nat_lit 0) : Int)) then
              bif Decidable.decide ((↑(List.length x.fst.snd.snd.fst.fst.1) : Int) ≤ r0.1) then
                some (((0 : Int), (0 : Int), (1 : Int)))
              else
                bif Decidable.decide (Go.RowKit.wrap64 (x.snd.1 - (1 : Int)) = (↑(nat_lit 2) : Int)) then
                  bif Decidable.decide ((0 : Int) ≤ r0.1) then
                    bif Decidable.decide (r0.1 < (↑(List.length x.fst.snd.snd.fst.snd.snd.1) : Int)) then
                      bif Decidable.decide (Go.RowKit.wrap64 (x.snd.1 - (1 : Int)) = (↑(nat_lit 2) : Int)) then
                        bif Decidable.decide ((0 : Int) ≤ r0.1) then
                          bif Decidable.decide (r0.1 < (↑(List.length x.fst.snd.snd.fst.snd.snd.snd.1) : Int)) then
                            some ((List.getD x.fst.snd.snd.fst.snd.snd.1 (Int.toNat r0.1) (0 : Int), List.getD x.fst.snd.snd.fst.snd.snd.snd.1 (Int.toNat r0.1) (0 : Int), (0 : Int)))
                          else
                            none
                        else
                          none
                      else
                        bif Decidable.decide (Go.RowKit.wrap64 (x.snd.1 - (1 : Int)) = (↑(nat_lit 1) : Int)) then
                          bif Decidable.decide ((0 : Int) ≤ r0.1) then
                            bif Decidable.decide (r0.1 < (↑(List.length x.fst.snd.snd.fst.snd.fst.snd.1) : Int)) then
                              some ((List.getD x.fst.snd.snd.fst.snd.snd.1 (Int.toNat r0.1) (0 : Int), List.getD x.fst.snd.snd.fst.snd.fst.snd.1 (Int.toNat r0.1) (0 : Int), (0 : Int)))
                            else
                              none
                          else
                            none
                        else
                          bif Decidable.decide (Go.RowKit.wrap64 (x.snd.1 - (1 : Int)) = (↑(nat_lit 0) : Int)) then
                            bif Decidable.decide ((0 : Int) ≤ r0.1) then
                              bif Decidable.decide (r0.1 < (↑(List.length x.fst.snd.snd.fst.fst.snd.1) : Int)) then
                                some ((List.getD x.fst.snd.snd.fst.snd.snd.1 (Int.toNat r0.1) (0 : Int), List.getD x.fst.snd.snd.fst.fst.snd.1 (Int.toNat r0.1) (0 : Int), (0 : Int)))
                              else
                                none
                            else
                              none
                          else
                            none
                    else
                      none
                  else
                    none
                else
                  bif Decidable.decide (Go.RowKit.wrap64 (x.snd.1 - (1 : Int)) = (↑(nat_lit 1) : Int)) then
                    bif Decidable.decide ((0 : Int) ≤ r0.1) then
                      bif Decidable.decide (r0.1 < (↑(List.length x.fst.snd.snd.fst.snd.fst.1) : Int)) then
                        bif Decidable.decide (Go.RowKit.wrap64 (x.snd.1 - (1 : Int)) = (↑(nat_lit 2) : Int)) then
                          bif Decidable.decide ((0 : Int) ≤ r0.1) then
                            bif Decidable.decide (r0.1 < (↑(List.length x.fst.snd.snd.fst.snd.snd.snd.1) : Int)) then
                              some ((List.getD x.fst.snd.snd.fst.snd.fst.1 (Int.toNat r0.1) (0 : Int), List.getD x.fst.snd.snd.fst.snd.snd.snd.1 (Int.toNat r0.1) (0 : Int), (0 : Int)))
                            else
                              none
                          else
                            none
                        else
                          bif Decidable.decide (Go.RowKit.wrap64 (x.snd.1 - (1 : Int)) = (↑(nat_lit 1) : Int)) then
                            bif Decidable.decide ((0 : Int) ≤ r0.1) then
                              bif Decidable.decide (r0.1 < (↑(List.length x.fst.snd.snd.fst.snd.fst.snd.1) : Int)) then
                                some ((List.getD x.fst.snd.snd.fst.snd.fst.1 (Int.toNat r0.1) (0 : Int), List.getD x.fst.snd.snd.fst.snd.fst.snd.1 (Int.toNat r0.1) (0 : Int), (0 : Int)))
                              else
                                none
                            else
                              none
                          else
                            bif Decidable.decide (Go.RowKit.wrap64 (x.snd.1 - (1 : Int)) = (↑(nat_lit 0) : Int)) then
                              bif Decidable.decide ((0 : Int) ≤ r0.1) then
                                bif Decidable.decide (r0.1 < (↑(List.length x.fst.snd.snd.fst.fst.snd.1) : Int)) then
                                  some ((List.getD x.fst.snd.snd.fst.snd.fst.1 (Int.toNat r0.1) (0 : Int), List.getD x.fst.snd.snd.fst.fst.snd.1 (Int.toNat r0.1) (0 : Int), (0 : Int)))
                                else
                                  none
                              else
                                none
                            else
                              none
                      else
                        none
                    else
                      none
                  else
                    bif Decidable.decide (Go.RowKit.wrap64 (x.snd.1 - (1 : Int)) = (↑(nat_lit 0) : Int)) then
                      bif Decidable.decide ((0 : Int) ≤ r0.1) then
                        bif Decidable.decide (r0.1 < (↑(List.length x.fst.snd.snd.fst.fst.1) : Int)) then
                          bif Decidable.decide (Go.RowKit.wrap64 (x.snd.1 - (1 : Int)) = (↑(nat_lit 2) : Int)) then
                            bif Decidable.decide ((0 : Int) ≤ r0.1) then
                              bif Decidable.decide (r0.1 < (↑(List.length x.fst.snd.snd.fst.snd.snd.snd.1) : Int)) then
                                some ((List.getD x.fst.snd.snd.fst.fst.1 (Int.toNat r0.1) (0 : Int), List.getD x.fst.snd.snd.fst.snd.snd.snd.1 (Int.toNat r0.1) (0 : Int), (0 : Int)))
                              else
                                none
                            else
                              none
                          else
                            bif Decidable.decide (Go.RowKit.wrap64 (x.snd.1 - (1 : Int)) = (↑(nat_lit 1) : Int)) then
                              bif Decidable.decide ((0 : Int) ≤ r0.1) then
                                bif Decidable.decide (r0.1 < (↑(List.length x.fst.snd.snd.fst.snd.fst.snd.1) : Int)) then
                                  some ((List.getD x.fst.snd.snd.fst.fst.1 (Int.toNat r0.1) (0 : Int), List.getD x.fst.snd.snd.fst.snd.fst.snd.1 (Int.toNat r0.1) (0 : Int), (0 : Int)))
                                else
                                  none
                              else
                                none
                            else
                              bif Decidable.decide (Go.RowKit.wrap64 (x.snd.1 - (1 : Int)) = (↑(nat_lit 0) : Int)) then
                                bif Decidable.decide ((0 : Int) ≤ r0.1) then
                                  bif Decidable.decide (r0.1 < (↑(List.length x.fst.snd.snd.fst.fst.snd.1) : Int)) then
                                    some ((List.getD x.fst.snd.snd.fst.fst.1 (Int.toNat r0.1) (0 : Int), List.getD x.fst.snd.snd.fst.fst.snd.1 (Int.toNat r0.1) (0 : Int), (0 : Int)))
                                  else
                                    none
                                else
                                  none
                              else
                                none
                        else
                          none
                      else
                        none
                    else
                      none
            else
              none
def tendrilref07_Gen_S : Sig := ⟨[⟨true, (.pair (.sl .int) (.pair (.sl .int) (.pair (.pair (.pair (.sl .int) (.pair (.sl .int) (.pair (.sl .int) (.sl .int)))) (.pair (.pair (.sl .int) (.pair (.sl .int) (.pair (.sl .int) (.sl .int)))) (.pair (.sl .int) (.pair (.sl .int) (.pair (.sl .int) (.sl .int)))))) (.pair .int (.sl .int)))))⟩, ⟨false, .int⟩, ⟨false, .int⟩], [⟨false, .int⟩, ⟨false, .int⟩, ⟨false, .int⟩], false, tendrilref07_Gen⟩
/-! tendril/tendrillaw07.ArenaSlots -/
def tendrillaw07_ArenaSlots (x : (List Int × List Int × ((List Int × List Int × List Int × List Int) × (List Int × List Int × List Int × List Int) × List Int × List Int × List Int × List Int) × Int × List Int) × Int × Int) : Option (Bool) :=
  (tendrillaw07_live (())).bind fun r0 =>
  bif !r0 then
    some (Bool.false)
  else
    (tendrilref07_Few ((x.fst.1, x.fst.snd.1, ((x.fst.snd.snd.fst.fst.1, x.fst.snd.snd.fst.fst.snd.1, x.fst.snd.snd.fst.fst.snd.snd.1, x.fst.snd.snd.fst.fst.snd.snd.2), (x.fst.snd.snd.fst.snd.fst.1, x.fst.snd.snd.fst.snd.fst.snd.1, x.fst.snd.snd.fst.snd.fst.snd.snd.1, x.fst.snd.snd.fst.snd.fst.snd.snd.2), x.fst.snd.snd.fst.snd.snd.1, x.fst.snd.snd.fst.snd.snd.snd.1, x.fst.snd.snd.fst.snd.snd.snd.snd.1, x.fst.snd.snd.fst.snd.snd.snd.snd.2), x.fst.snd.snd.snd.1, x.fst.snd.snd.snd.2))).bind fun r1 =>
    bif !r1 then
      some (Bool.true)
    else
      (arena_Take (((x.fst.1, x.fst.snd.1, ((x.fst.snd.snd.fst.fst.1, x.fst.snd.snd.fst.fst.snd.1, x.fst.snd.snd.fst.fst.snd.snd.1, x.fst.snd.snd.fst.fst.snd.snd.2), (x.fst.snd.snd.fst.snd.fst.1, x.fst.snd.snd.fst.snd.fst.snd.1, x.fst.snd.snd.fst.snd.fst.snd.snd.1, x.fst.snd.snd.fst.snd.fst.snd.snd.2), x.fst.snd.snd.fst.snd.snd.1, x.fst.snd.snd.fst.snd.snd.snd.1, x.fst.snd.snd.fst.snd.snd.snd.snd.1, x.fst.snd.snd.fst.snd.snd.snd.snd.2), x.fst.snd.snd.snd.1, x.fst.snd.snd.snd.2), x.snd.1))).bind fun r2 =>
      (tendrilref07_Take (((x.fst.1, x.fst.snd.1, ((x.fst.snd.snd.fst.fst.1, x.fst.snd.snd.fst.fst.snd.1, x.fst.snd.snd.fst.fst.snd.snd.1, x.fst.snd.snd.fst.fst.snd.snd.2), (x.fst.snd.snd.fst.snd.fst.1, x.fst.snd.snd.fst.snd.fst.snd.1, x.fst.snd.snd.fst.snd.fst.snd.snd.1, x.fst.snd.snd.fst.snd.fst.snd.snd.2), x.fst.snd.snd.fst.snd.snd.1, x.fst.snd.snd.fst.snd.snd.snd.1, x.fst.snd.snd.fst.snd.snd.snd.snd.1, x.fst.snd.snd.fst.snd.snd.snd.snd.2), x.fst.snd.snd.snd.1, x.fst.snd.snd.snd.2), x.snd.1))).bind fun r3 =>
      (arena_Retire (((x.fst.1, x.fst.snd.1, ((x.fst.snd.snd.fst.fst.1, x.fst.snd.snd.fst.fst.snd.1, x.fst.snd.snd.fst.fst.snd.snd.1, x.fst.snd.snd.fst.fst.snd.snd.2), (x.fst.snd.snd.fst.snd.fst.1, x.fst.snd.snd.fst.snd.fst.snd.1, x.fst.snd.snd.fst.snd.fst.snd.snd.1, x.fst.snd.snd.fst.snd.fst.snd.snd.2), x.fst.snd.snd.fst.snd.snd.1, x.fst.snd.snd.fst.snd.snd.snd.1, x.fst.snd.snd.fst.snd.snd.snd.snd.1, x.fst.snd.snd.fst.snd.snd.snd.snd.2), x.fst.snd.snd.snd.1, x.fst.snd.snd.snd.2), x.snd.1, x.snd.2))).bind fun r4 =>
      (tendrilref07_Retire (((x.fst.1, x.fst.snd.1, ((x.fst.snd.snd.fst.fst.1, x.fst.snd.snd.fst.fst.snd.1, x.fst.snd.snd.fst.fst.snd.snd.1, x.fst.snd.snd.fst.fst.snd.snd.2), (x.fst.snd.snd.fst.snd.fst.1, x.fst.snd.snd.fst.snd.fst.snd.1, x.fst.snd.snd.fst.snd.fst.snd.snd.1, x.fst.snd.snd.fst.snd.fst.snd.snd.2), x.fst.snd.snd.fst.snd.snd.1, x.fst.snd.snd.fst.snd.snd.snd.1, x.fst.snd.snd.fst.snd.snd.snd.snd.1, x.fst.snd.snd.fst.snd.snd.snd.snd.2), x.fst.snd.snd.snd.1, x.fst.snd.snd.snd.2), x.snd.1, x.snd.2))).bind fun r5 =>
      (arena_Gen (((x.fst.1, x.fst.snd.1, ((x.fst.snd.snd.fst.fst.1, x.fst.snd.snd.fst.fst.snd.1, x.fst.snd.snd.fst.fst.snd.snd.1, x.fst.snd.snd.fst.fst.snd.snd.2), (x.fst.snd.snd.fst.snd.fst.1, x.fst.snd.snd.fst.snd.fst.snd.1, x.fst.snd.snd.fst.snd.fst.snd.snd.1, x.fst.snd.snd.fst.snd.fst.snd.snd.2), x.fst.snd.snd.fst.snd.snd.1, x.fst.snd.snd.fst.snd.snd.snd.1, x.fst.snd.snd.fst.snd.snd.snd.snd.1, x.fst.snd.snd.fst.snd.snd.snd.snd.2), x.fst.snd.snd.snd.1, x.fst.snd.snd.snd.2), x.snd.1, x.snd.2))).bind fun r6 =>
      (tendrilref07_Gen (((x.fst.1, x.fst.snd.1, ((x.fst.snd.snd.fst.fst.1, x.fst.snd.snd.fst.fst.snd.1, x.fst.snd.snd.fst.fst.snd.snd.1, x.fst.snd.snd.fst.fst.snd.snd.2), (x.fst.snd.snd.fst.snd.fst.1, x.fst.snd.snd.fst.snd.fst.snd.1, x.fst.snd.snd.fst.snd.fst.snd.snd.1, x.fst.snd.snd.fst.snd.fst.snd.snd.2), x.fst.snd.snd.fst.snd.snd.1, x.fst.snd.snd.fst.snd.snd.snd.1, x.fst.snd.snd.fst.snd.snd.snd.snd.1, x.fst.snd.snd.fst.snd.snd.snd.snd.2), x.fst.snd.snd.snd.1, x.fst.snd.snd.snd.2), x.snd.1, x.snd.2))).bind fun r7 =>
      (tendrilref07_Same (((r2.fst.1, r2.fst.snd.1, ((r2.fst.snd.snd.fst.fst.1, r2.fst.snd.snd.fst.fst.snd.1, r2.fst.snd.snd.fst.fst.snd.snd.1, r2.fst.snd.snd.fst.fst.snd.snd.2), (r2.fst.snd.snd.fst.snd.fst.1, r2.fst.snd.snd.fst.snd.fst.snd.1, r2.fst.snd.snd.fst.snd.fst.snd.snd.1, r2.fst.snd.snd.fst.snd.fst.snd.snd.2), r2.fst.snd.snd.fst.snd.snd.1, r2.fst.snd.snd.fst.snd.snd.snd.1, r2.fst.snd.snd.fst.snd.snd.snd.snd.1, r2.fst.snd.snd.fst.snd.snd.snd.snd.2), r2.fst.snd.snd.snd.1, r2.fst.snd.snd.snd.2), r3.fst.1, r3.fst.snd.1, ((r3.fst.snd.snd.fst.fst.1, r3.fst.snd.snd.fst.fst.snd.1, r3.fst.snd.snd.fst.fst.snd.snd.1, r3.fst.snd.snd.fst.fst.snd.snd.2), (r3.fst.snd.snd.fst.snd.fst.1, r3.fst.snd.snd.fst.snd.fst.snd.1, r3.fst.snd.snd.fst.snd.fst.snd.snd.1, r3.fst.snd.snd.fst.snd.fst.snd.snd.2), r3.fst.snd.snd.fst.snd.snd.1, r3.fst.snd.snd.fst.snd.snd.snd.1, r3.fst.snd.snd.fst.snd.snd.snd.snd.1, r3.fst.snd.snd.fst.snd.snd.snd.snd.2), r3.fst.snd.snd.snd.1, r3.fst.snd.snd.snd.2))).bind fun r8 =>
      bif r8 then
        bif r2.snd.1 == r3.snd.1 then
          bif r2.snd.2 == r3.snd.2 then
            (tendrilref07_Same (((r4.fst.1, r4.fst.snd.1, ((r4.fst.snd.snd.fst.fst.1, r4.fst.snd.snd.fst.fst.snd.1, r4.fst.snd.snd.fst.fst.snd.snd.1, r4.fst.snd.snd.fst.fst.snd.snd.2), (r4.fst.snd.snd.fst.snd.fst.1, r4.fst.snd.snd.fst.snd.fst.snd.1, r4.fst.snd.snd.fst.snd.fst.snd.snd.1, r4.fst.snd.snd.fst.snd.fst.snd.snd.2), r4.fst.snd.snd.fst.snd.snd.1, r4.fst.snd.snd.fst.snd.snd.snd.1, r4.fst.snd.snd.fst.snd.snd.snd.snd.1, r4.fst.snd.snd.fst.snd.snd.snd.snd.2), r4.fst.snd.snd.snd.1, r4.fst.snd.snd.snd.2), r5.fst.1, r5.fst.snd.1, ((r5.fst.snd.snd.fst.fst.1, r5.fst.snd.snd.fst.fst.snd.1, r5.fst.snd.snd.fst.fst.snd.snd.1, r5.fst.snd.snd.fst.fst.snd.snd.2), (r5.fst.snd.snd.fst.snd.fst.1, r5.fst.snd.snd.fst.snd.fst.snd.1, r5.fst.snd.snd.fst.snd.fst.snd.snd.1, r5.fst.snd.snd.fst.snd.fst.snd.snd.2), r5.fst.snd.snd.fst.snd.snd.1, r5.fst.snd.snd.fst.snd.snd.snd.1, r5.fst.snd.snd.fst.snd.snd.snd.snd.1, r5.fst.snd.snd.fst.snd.snd.snd.snd.2), r5.fst.snd.snd.snd.1, r5.fst.snd.snd.snd.2))).bind fun r9 =>
            bif r9 then
              bif r4.2 == r5.2 then
                bif r6.1 == r7.1 then
                  bif r6.snd.1 == r7.snd.1 then
                    some (r6.snd.2 == r7.snd.2)
                  else
                    some (Bool.false)
                else
                  some (Bool.false)
              else
                some (Bool.false)
            else
              some (Bool.false)
          else
            some (Bool.false)
        else
          some (Bool.false)
      else
        some (Bool.false)
def tendrillaw07_ArenaSlots_S : Sig := ⟨[⟨true, (.pair (.sl .int) (.pair (.sl .int) (.pair (.pair (.pair (.sl .int) (.pair (.sl .int) (.pair (.sl .int) (.sl .int)))) (.pair (.pair (.sl .int) (.pair (.sl .int) (.pair (.sl .int) (.sl .int)))) (.pair (.sl .int) (.pair (.sl .int) (.pair (.sl .int) (.sl .int)))))) (.pair .int (.sl .int)))))⟩, ⟨false, .int⟩, ⟨false, .int⟩], [⟨false, .bool⟩], false, tendrillaw07_ArenaSlots⟩
/-! tendril/era.pinned -/
def era_pinned (x : (Int × List Int) × Int) : Option (Int × Int) :=
  (era_Check ((x.fst.1, x.fst.2))).bind fun r0 =>
  bif r0 != (0 : Int) then
    some (((0 : Int), (1 : Int)))
  else
    bif Decidable.decide (x.2 < (0 : Int)) then
      some (((0 : Int), (1 : Int)))
    else
      bif Decidable.decide ((↑(List.length x.fst.2) : Int) ≤ x.2) then
        some (((0 : Int), (1 : Int)))
      else
        bif Decidable.decide ((0 : Int) ≤ x.2) then
          bif Decidable.decide (x.2 < (↑(List.length x.fst.2) : Int)) then
            some ((List.getD x.fst.2 (Int.toNat x.2) (0 : Int), (0 : Int)))
          else
            none
        else
          none
def era_pinned_S : Sig := ⟨[⟨true, (.pair .int (.sl .int))⟩, ⟨false, .int⟩], [⟨false, .int⟩, ⟨false, .int⟩], false, era_pinned⟩
/-! tendril/era.with -/
def era_with (x : (Int × List Int) × Int × Int) : Option (Int × List Int) :=
  (slices_Clone (x.fst.2)).bind fun r0 =>
  bif Decidable.decide ((0 : Int) ≤ x.snd.1) then
    bif Decidable.decide (x.snd.1 < (↑(List.length r0) : Int)) then
      some ((x.fst.1, List.set r0 (Int.toNat x.snd.1) x.snd.2))
    else
      none
  else
    none
def era_with_S : Sig := ⟨[⟨true, (.pair .int (.sl .int))⟩, ⟨false, .int⟩, ⟨false, .int⟩], [⟨true, (.pair .int (.sl .int))⟩], true, era_with⟩
/-! tendril/era.Pin -/
def era_Pin (x : (Int × List Int) × Int) : Option ((Int × List Int) × Int) :=
  (era_pinned (((x.fst.1, x.fst.2), x.2))).bind fun r0 =>
  bif r0.2 != (0 : Int) then
    some ((((0 : Int), []), (1 : Int)))
  else
    bif r0.1 != (-1 : Int) then
      some ((((0 : Int), []), (1 : Int)))
    else
      (era_with (((x.fst.1, x.fst.2), x.2, x.fst.1))).bind fun r1 =>
      some (((r1.1, r1.2), (0 : Int)))
def era_Pin_S : Sig := ⟨[⟨true, (.pair .int (.sl .int))⟩, ⟨false, .int⟩], [⟨true, (.pair .int (.sl .int))⟩, ⟨false, .int⟩], true, era_Pin⟩
/-! tendril/arena.Pin -/
def arena_Pin (x : (List Int × List Int × ((List Int × List Int × List Int × List Int) × (List Int × List Int × List Int × List Int) × List Int × List Int × List Int × List Int) × Int × List Int) × Int) : Option ((List Int × List Int × ((List Int × List Int × List Int × List Int) × (List Int × List Int × List Int × List Int) × List Int × List Int × List Int × List Int) × Int × List Int) × Int) :=
  (arena_may (((x.fst.1, x.fst.snd.1, ((x.fst.snd.snd.fst.fst.1, x.fst.snd.snd.fst.fst.snd.1, x.fst.snd.snd.fst.fst.snd.snd.1, x.fst.snd.snd.fst.fst.snd.snd.2), (x.fst.snd.snd.fst.snd.fst.1, x.fst.snd.snd.fst.snd.fst.snd.1, x.fst.snd.snd.fst.snd.fst.snd.snd.1, x.fst.snd.snd.fst.snd.fst.snd.snd.2), x.fst.snd.snd.fst.snd.snd.1, x.fst.snd.snd.fst.snd.snd.snd.1, x.fst.snd.snd.fst.snd.snd.snd.snd.1, x.fst.snd.snd.fst.snd.snd.snd.snd.2), x.fst.snd.snd.snd.1, x.fst.snd.snd.snd.2), (1 : Int)))).bind fun r0 =>
  bif !r0 then
    some ((([], [], (([], [], [], []), ([], [], [], []), [], [], [], []), (0 : Int), []), (1 : Int)))
  else
    (era_Pin (((x.fst.snd.snd.snd.1, x.fst.snd.snd.snd.2), x.2))).bind fun r1 =>
    bif r1.2 != (0 : Int) then
      some ((([], [], (([], [], [], []), ([], [], [], []), [], [], [], []), (0 : Int), []), r1.2))
    else
      some (((x.fst.1, x.fst.snd.1, ((x.fst.snd.snd.fst.fst.1, x.fst.snd.snd.fst.fst.snd.1, x.fst.snd.snd.fst.fst.snd.snd.1, x.fst.snd.snd.fst.fst.snd.snd.2), (x.fst.snd.snd.fst.snd.fst.1, x.fst.snd.snd.fst.snd.fst.snd.1, x.fst.snd.snd.fst.snd.fst.snd.snd.1, x.fst.snd.snd.fst.snd.fst.snd.snd.2), x.fst.snd.snd.fst.snd.snd.1, x.fst.snd.snd.fst.snd.snd.snd.1, x.fst.snd.snd.fst.snd.snd.snd.snd.1, x.fst.snd.snd.fst.snd.snd.snd.snd.2), r1.fst.1, r1.fst.2), (0 : Int)))
def arena_Pin_S : Sig := ⟨[⟨true, (.pair (.sl .int) (.pair (.sl .int) (.pair (.pair (.pair (.sl .int) (.pair (.sl .int) (.pair (.sl .int) (.sl .int)))) (.pair (.pair (.sl .int) (.pair (.sl .int) (.pair (.sl .int) (.sl .int)))) (.pair (.sl .int) (.pair (.sl .int) (.pair (.sl .int) (.sl .int)))))) (.pair .int (.sl .int)))))⟩, ⟨false, .int⟩], [⟨true, (.pair (.sl .int) (.pair (.sl .int) (.pair (.pair (.pair (.sl .int) (.pair (.sl .int) (.pair (.sl .int) (.sl .int)))) (.pair (.pair (.sl .int) (.pair (.sl .int) (.pair (.sl .int) (.sl .int)))) (.pair (.sl .int) (.pair (.sl .int) (.pair (.sl .int) (.sl .int)))))) (.pair .int (.sl .int)))))⟩, ⟨false, .int⟩], false, arena_Pin⟩
/-! tendril/tendrilref06.Pin -/
def tendrilref06_Pin (x : (Int × List Int) × Int) : Option ((Int × List Int) × Int) :=
  (tendrilref06_Check ((x.fst.1, x.fst.2))).bind fun r0 =>
  bif r0 != (0 : Int) then
    some ((((0 : Int), []), (1 : Int)))
  else
    bif Decidable.decide (x.2 < (0 : Int)) then
      some ((((0 : Int), []), (1 : Int)))
    else
      bif Decidable.decide ((↑(List.length x.fst.2) : Int) ≤ x.2) then
        some ((((0 : Int), []), (1 : Int)))
      else
        bif Decidable.decide ((0 : Int) ≤ x.2) then
          bif Decidable.decide (x.2 < (↑(List.length x.fst.2) : Int)) then
            bif List.getD x.fst.2 (Int.toNat x.2) (0 : Int) != (-1 : Int) then
              some ((((0 : Int), []), (1 : Int)))
            else
              (tendrilref02_Copy (x.fst.2)).bind fun r1 =>
              bif Decidable.decide ((0 : Int) ≤ x.2) then
                bif Decidable.decide (x.2 < (↑(List.length r1) : Int)) then
                  some (((x.fst.1, List.set r1 (Int.toNat x.2) x.fst.1), (0 : Int)))
                else
                  none
              else
                none
          else
            none
        else
          none
def tendrilref06_Pin_S : Sig := ⟨[⟨true, (.pair .int (.sl .int))⟩, ⟨false, .int⟩], [⟨true, (.pair .int (.sl .int))⟩, ⟨false, .int⟩], true, tendrilref06_Pin⟩
/-! tendril/tendrilref07.Pin -/
def tendrilref07_Pin (x : (List Int × List Int × ((List Int × List Int × List Int × List Int) × (List Int × List Int × List Int × List Int) × List Int × List Int × List Int × List Int) × Int × List Int) × Int) : Option ((List Int × List Int × ((List Int × List Int × List Int × List Int) × (List Int × List Int × List Int × List Int) × List Int × List Int × List Int × List Int) × Int × List Int) × Int) :=
  (tendrilref07_Check ((x.fst.1, x.fst.snd.1, ((x.fst.snd.snd.fst.fst.1, x.fst.snd.snd.fst.fst.snd.1, x.fst.snd.snd.fst.fst.snd.snd.1, x.fst.snd.snd.fst.fst.snd.snd.2), (x.fst.snd.snd.fst.snd.fst.1, x.fst.snd.snd.fst.snd.fst.snd.1, x.fst.snd.snd.fst.snd.fst.snd.snd.1, x.fst.snd.snd.fst.snd.fst.snd.snd.2), x.fst.snd.snd.fst.snd.snd.1, x.fst.snd.snd.fst.snd.snd.snd.1, x.fst.snd.snd.fst.snd.snd.snd.snd.1, x.fst.snd.snd.fst.snd.snd.snd.snd.2), x.fst.snd.snd.snd.1, x.fst.snd.snd.snd.2))).bind fun r0 =>
  bif r0 != (0 : Int) then
    some ((([], [], (([], [], [], []), ([], [], [], []), [], [], [], []), (0 : Int), []), (1 : Int)))
  else
    (tendrilref06_Pin (((x.fst.snd.snd.snd.1, x.fst.snd.snd.snd.2), x.2))).bind fun r1 =>
    bif r1.2 != (0 : Int) then
      some ((([], [], (([], [], [], []), ([], [], [], []), [], [], [], []), (0 : Int), []), r1.2))
    else
      some (((x.fst.1, x.fst.snd.1, ((x.fst.snd.snd.fst.fst.1, x.fst.snd.snd.fst.fst.snd.1, x.fst.snd.snd.fst.fst.snd.snd.1, x.fst.snd.snd.fst.fst.snd.snd.2), (x.fst.snd.snd.fst.snd.fst.1, x.fst.snd.snd.fst.snd.fst.snd.1, x.fst.snd.snd.fst.snd.fst.snd.snd.1, x.fst.snd.snd.fst.snd.fst.snd.snd.2), x.fst.snd.snd.fst.snd.snd.1, x.fst.snd.snd.fst.snd.snd.snd.1, x.fst.snd.snd.fst.snd.snd.snd.snd.1, x.fst.snd.snd.fst.snd.snd.snd.snd.2), r1.fst.1, r1.fst.2), (0 : Int)))
def tendrilref07_Pin_S : Sig := ⟨[⟨true, (.pair (.sl .int) (.pair (.sl .int) (.pair (.pair (.pair (.sl .int) (.pair (.sl .int) (.pair (.sl .int) (.sl .int)))) (.pair (.pair (.sl .int) (.pair (.sl .int) (.pair (.sl .int) (.sl .int)))) (.pair (.sl .int) (.pair (.sl .int) (.pair (.sl .int) (.sl .int)))))) (.pair .int (.sl .int)))))⟩, ⟨false, .int⟩], [⟨true, (.pair (.sl .int) (.pair (.sl .int) (.pair (.pair (.pair (.sl .int) (.pair (.sl .int) (.pair (.sl .int) (.sl .int)))) (.pair (.pair (.sl .int) (.pair (.sl .int) (.pair (.sl .int) (.sl .int)))) (.pair (.sl .int) (.pair (.sl .int) (.pair (.sl .int) (.sl .int)))))) (.pair .int (.sl .int)))))⟩, ⟨false, .int⟩], false, tendrilref07_Pin⟩
/-! tendril/tendrilref06.Turn -/
def tendrilref06_Turn_L12 : Nat → (List Int) → (Int) → (Int) → (Int) → (List Int) → (Int) → (Int) → (List Int) → Option ((Int × List Int) × Bool)
  | 0, _, _, _, _, _, _, _, _ => none
  | k + 1, p0, p1, p2, p3, p4, p5, p6, p7 =>
    bif Decidable.decide (p2 < p1) then
      bif Decidable.decide ((0 : Int) ≤ p2) then
        bif Decidable.decide (p2 < (↑p0.length : Int)) then
          bif p0.getD p2.toNat (0 : Int) != (-1 : Int) then
            bif p0.getD p2.toNat (0 : Int) != p3 then
              some (((p6, p7), Bool.false))
            else
              tendrilref06_Turn_L12 k (p0) (p1) (Go.RowKit.wrap64 (p2 + (1 : Int))) (p3) (p4) (p5) (p6) (p7)
          else
            tendrilref06_Turn_L12 k (p0) (p1) (Go.RowKit.wrap64 (p2 + (1 : Int))) (p3) (p4) (p5) (p6) (p7)
        else
          none
      else
        none
    else
      bif p3 == (1152921504606846976 : Int) then
        some (((p6, p7), Bool.false))
      else
        some (((Go.RowKit.wrap64 (p6 + (1 : Int)), p7), Bool.true))
def tendrilref06_Turn_K (K : Nat) (x : Int × List Int) : Option ((Int × List Int) × Bool) :=
  (tendrilref06_Check ((x.1, x.2))).bind fun r0 =>
  bif r0 != (0 : Int) then
    some ((((0 : Int), []), Bool.false))
  else
    (tendrilref02_Copy (x.2)).bind fun r1 =>
    tendrilref06_Turn_L12 K (x.2) ((↑(List.length x.2) : Int)) ((0 : Int)) (x.1) (x.2) ((0 : Int)) (x.1) (r1)
def tendrilref06_Turn (x : (Int × (List Int))) : Option ((Int × (List Int)) × Bool) := tendrilref06_Turn_K 2000000 x
def tendrilref06_Turn_S : Sig := ⟨[⟨true, (.pair .int (.sl .int))⟩], [⟨true, (.pair .int (.sl .int))⟩, ⟨false, .bool⟩], true, tendrilref06_Turn⟩
/-! tendril/tendrilref05.Reclaim -/
def tendrilref05_Reclaim_L14 : Nat → (Int) → (Int) → (Int) → (Int) → (List Int) → (List Int) → (List Int) → (List Int) → (List Int) → (List Int) → (List Int) → (List Int) → Option ((List Int × List Int × List Int × List Int) × Int)
  | 0, _, _, _, _, _, _, _, _, _, _, _, _ => none
  | k + 1, p0, p1, p2, p3, p4, p5, p6, p7, p8, p9, p10, p11 =>
    bif Decidable.decide (p3 < p2) then
      bif Decidable.decide ((0 : Int) ≤ p3) then
        bif Decidable.decide (p3 < (↑p5.length : Int)) then
          bif p5.getD p3.toNat (0 : Int) == (2 : Int) then
            bif Decidable.decide ((0 : Int) ≤ p3) then
              bif Decidable.decide (p3 < (↑p6.length : Int)) then
                bif Decidable.decide (p6.getD p3.toNat (0 : Int) ≤ p0) then
                  bif Decidable.decide ((0 : Int) ≤ p3) then
                    bif Decidable.decide (p3 < (↑p4.length : Int)) then
                      bif Decidable.decide (p4.getD p3.toNat (0 : Int) < (1099511627775 : Int)) then
                        bif Decidable.decide ((0 : Int) ≤ p3) then
                          bif Decidable.decide (p3 < (↑p9.length : Int)) then
                            bif Decidable.decide ((0 : Int) ≤ p3) then
                              bif Decidable.decide (p3 < (↑p10.length : Int)) then
                                bif Decidable.decide ((0 : Int) ≤ p3) then
                                  bif Decidable.decide (p3 < (↑p8.length : Int)) then
                                    bif Decidable.decide ((0 : Int) ≤ p3) then
                                      bif Decidable.decide (p3 < (↑p8.length : Int)) then
                                        bif Decidable.decide (p11.length + [p3].length ≤ (1000000 : Nat)) then
                                          tendrilref05_Reclaim_L14 k (p0) (Go.RowKit.wrap64 (p1 + (1 : Int))) (p2) (Go.RowKit.wrap64 (p3 + (1 : Int))) (p4) (p5) (p6) (p7) (p8.set p3.toNat (Go.RowKit.wrap64 (p8.getD p3.toNat (0 : Int) + (1 : Int)))) (p9.set p3.toNat (0 : Int)) (p10.set p3.toNat (0 : Int)) (p11 ++ [p3])
                                        else
                                          none
                                      else
                                        none
                                    else
                                      none
                                  else
                                    none
                                else
                                  none
                              else
                                none
                            else
                              none
                          else
                            none
                        else
                          none
                      else
                        tendrilref05_Reclaim_L14 k (p0) (p1) (p2) (Go.RowKit.wrap64 (p3 + (1 : Int))) (p4) (p5) (p6) (p7) (p8) (p9) (p10) (p11)
                    else
                      none
                  else
                    none
                else
                  tendrilref05_Reclaim_L14 k (p0) (p1) (p2) (Go.RowKit.wrap64 (p3 + (1 : Int))) (p4) (p5) (p6) (p7) (p8) (p9) (p10) (p11)
              else
                none
            else
              none
          else
            tendrilref05_Reclaim_L14 k (p0) (p1) (p2) (Go.RowKit.wrap64 (p3 + (1 : Int))) (p4) (p5) (p6) (p7) (p8) (p9) (p10) (p11)
        else
          none
      else
        none
    else
      some (((p8, p9, p10, p11), p1))
def tendrilref05_Reclaim_K (K : Nat) (x : (List Int × List Int × List Int × List Int) × Int) : Option ((List Int × List Int × List Int × List Int) × Int) :=
  (tendrilref05_Check ((x.fst.1, x.fst.snd.1, x.fst.snd.snd.1, x.fst.snd.snd.2))).bind fun r0 =>
  bif r0 != (0 : Int) then
    some ((([], [], [], []), (0 : Int)))
  else
    (tendrilref05_Copy ((x.fst.1, x.fst.snd.1, x.fst.snd.snd.1, x.fst.snd.snd.2))).bind fun r1 =>
    tendrilref05_Reclaim_L14 K (x.2) ((0 : Int)) ((↑(List.length x.fst.1) : Int)) ((0 : Int)) (x.fst.1) (x.fst.snd.1) (x.fst.snd.snd.1) (x.fst.snd.snd.2) (r1.1) (r1.snd.1) (r1.snd.snd.1) (r1.snd.snd.2)
def tendrilref05_Reclaim (x : ((List Int) × ((List Int) × ((List Int) × (List Int)))) × Int) : Option (((List Int) × ((List Int) × ((List Int) × (List Int)))) × Int) := tendrilref05_Reclaim_K 2000000 x
def tendrilref05_Reclaim_S : Sig := ⟨[⟨true, (.pair (.sl .int) (.pair (.sl .int) (.pair (.sl .int) (.sl .int))))⟩, ⟨false, .int⟩], [⟨true, (.pair (.sl .int) (.pair (.sl .int) (.pair (.sl .int) (.sl .int))))⟩, ⟨false, .int⟩], true, tendrilref05_Reclaim⟩
/-! tendril/tendrilref06.Safe -/
def tendrilref06_Safe (x : Int × List Int) : Option (Int) :=
  (tendrilref06_Check ((x.1, x.2))).bind fun r0 =>
  bif r0 != (0 : Int) then
    some ((-1 : Int))
  else
    some (Go.RowKit.wrap64 (x.1 - (2 : Int)))
def tendrilref06_Safe_S : Sig := ⟨[⟨true, (.pair .int (.sl .int))⟩], [⟨false, .int⟩], false, tendrilref06_Safe⟩
/-! tendril/tendrilref07.Turn -/
mutual
def tendrilref07_Turn_L14 : Nat → (Bool) → (Int) → (List Int) → (List Int) → (List Int) → (List Int) → (List Int) → (List Int) → (List Int) → (List Int) → (List Int) → (List Int) → (List Int) → (List Int) → (List Int) → (List Int) → (Int) → (Int) → (Int) → (List Int) → Option ((List Int × List Int × ((List Int × List Int × List Int × List Int) × (List Int × List Int × List Int × List Int) × List Int × List Int × List Int × List Int) × Int × List Int) × Bool)
  | 0, _, _, _, _, _, _, _, _, _, _, _, _, _, _, _, _, _, _, _, _ => none
  | k + 1, p0, p1, p2, p3, p4, p5, p6, p7, p8, p9, p10, p11, p12, p13, p14, p15, p16, p17, p18, p19 =>
    bif Decidable.decide (p1 < (3 : Int)) then
      bif p0 then
        bif Decidable.decide (p1 = (↑(nat_lit 2) : Int)) then
          (tendrilref06_Safe ((p18, p19))).bind fun r2 =>
          (tendrilref05_Reclaim (((p12, p13, p14, p15), r2))).bind fun r3 =>
          bif Decidable.decide (p1 = (↑(nat_lit 2) : Int)) then
            tendrilref07_Turn_L14x1 k (p0) (Go.RowKit.wrap64 (p1 + (1 : Int))) (p2) (p3) (p4) (p5) (p6) (p7) (p8) (p9) (p10) (p11) (p16) (p17) (p18) (r3.fst.1) (r3.fst.snd.1) (r3.fst.snd.snd.1) (r3.fst.snd.snd.2) (p19)
          else
            bif Decidable.decide (p1 = (↑(nat_lit 1) : Int)) then
              tendrilref07_Turn_L14x2 k (p0) (Go.RowKit.wrap64 (p1 + (1 : Int))) (p2) (p3) (p4) (p5) (p6) (p7) (p12) (p13) (p14) (p15) (p16) (p17) (p18) (r3.fst.1) (r3.fst.snd.1) (r3.fst.snd.snd.1) (r3.fst.snd.snd.2) (p19)
            else
              bif Decidable.decide (p1 = (↑(nat_lit 0) : Int)) then
                tendrilref07_Turn_L14x3 k (p0) (Go.RowKit.wrap64 (p1 + (1 : Int))) (p2) (p3) (p8) (p9) (p10) (p11) (p12) (p13) (p14) (p15) (p16) (p17) (p18) (r3.fst.1) (r3.fst.snd.1) (r3.fst.snd.snd.1) (r3.fst.snd.snd.2) (p19)
              else
                none
        else
          bif Decidable.decide (p1 = (↑(nat_lit 1) : Int)) then
            (tendrilref06_Safe ((p18, p19))).bind fun r4 =>
            (tendrilref05_Reclaim (((p8, p9, p10, p11), r4))).bind fun r5 =>
            bif Decidable.decide (p1 = (↑(nat_lit 2) : Int)) then
              tendrilref07_Turn_L14x1 k (p0) (Go.RowKit.wrap64 (p1 + (1 : Int))) (p2) (p3) (p4) (p5) (p6) (p7) (p8) (p9) (p10) (p11) (p16) (p17) (p18) (r5.fst.1) (r5.fst.snd.1) (r5.fst.snd.snd.1) (r5.fst.snd.snd.2) (p19)
            else
              bif Decidable.decide (p1 = (↑(nat_lit 1) : Int)) then
                tendrilref07_Turn_L14x2 k (p0) (Go.RowKit.wrap64 (p1 + (1 : Int))) (p2) (p3) (p4) (p5) (p6) (p7) (p12) (p13) (p14) (p15) (p16) (p17) (p18) (r5.fst.1) (r5.fst.snd.1) (r5.fst.snd.snd.1) (r5.fst.snd.snd.2) (p19)
              else
                bif Decidable.decide (p1 = (↑(nat_lit 0) : Int)) then
                  tendrilref07_Turn_L14x3 k (p0) (Go.RowKit.wrap64 (p1 + (1 : Int))) (p2) (p3) (p8) (p9) (p10) (p11) (p12) (p13) (p14) (p15) (p16) (p17) (p18) (r5.fst.1) (r5.fst.snd.1) (r5.fst.snd.snd.1) (r5.fst.snd.snd.2) (p19)
                else
                  none
          else
            bif Decidable.decide (p1 = (↑(nat_lit 0) : Int)) then
              (tendrilref06_Safe ((p18, p19))).bind fun r6 =>
              (tendrilref05_Reclaim (((p4, p5, p6, p7), r6))).bind fun r7 =>
              bif Decidable.decide (p1 = (↑(nat_lit 2) : Int)) then
                tendrilref07_Turn_L14x1 k (p0) (Go.RowKit.wrap64 (p1 + (1 : Int))) (p2) (p3) (p4) (p5) (p6) (p7) (p8) (p9) (p10) (p11) (p16) (p17) (p18) (r7.fst.1) (r7.fst.snd.1) (r7.fst.snd.snd.1) (r7.fst.snd.snd.2) (p19)
              else
                bif Decidable.decide (p1 = (↑(nat_lit 1) : Int)) then
                  tendrilref07_Turn_L14x2 k (p0) (Go.RowKit.wrap64 (p1 + (1 : Int))) (p2) (p3) (p4) (p5) (p6) (p7) (p12) (p13) (p14) (p15) (p16) (p17) (p18) (r7.fst.1) (r7.fst.snd.1) (r7.fst.snd.snd.1) (r7.fst.snd.snd.2) (p19)
                else
                  bif Decidable.decide (p1 = (↑(nat_lit 0) : Int)) then
                    tendrilref07_Turn_L14x3 k (p0) (Go.RowKit.wrap64 (p1 + (1 : Int))) (p2) (p3) (p8) (p9) (p10) (p11) (p12) (p13) (p14) (p15) (p16) (p17) (p18) (r7.fst.1) (r7.fst.snd.1) (r7.fst.snd.snd.1) (r7.fst.snd.snd.2) (p19)
                  else
                    none
            else
              none
      else
        tendrilref07_Turn_L14 k (p0) (Go.RowKit.wrap64 (p1 + (1 : Int))) (p2) (p3) (p4) (p5) (p6) (p7) (p8) (p9) (p10) (p11) (p12) (p13) (p14) (p15) (p16) (p17) (p18) (p19)
    else
      some (((p2, p3, ((p4, p5, p6, p7), (p8, p9, p10, p11), p12, p13, p14, p15), p16, p19), p0))
def tendrilref07_Turn_L14x1 : Nat → (Bool) → (Int) → (List Int) → (List Int) → (List Int) → (List Int) → (List Int) → (List Int) → (List Int) → (List Int) → (List Int) → (List Int) → (Int) → (Int) → (Int) → (List Int) → (List Int) → (List Int) → (List Int) → (List Int) → Option ((List Int × List Int × ((List Int × List Int × List Int × List Int) × (List Int × List Int × List Int × List Int) × List Int × List Int × List Int × List Int) × Int × List Int) × Bool)
  | 0, _, _, _, _, _, _, _, _, _, _, _, _, _, _, _, _, _, _, _, _ => none
  | k + 1, p0, p1, p2, p3, p4, p5, p6, p7, p8, p9, p10, p11, p12, p13, p14, p15, p16, p17, p18, p19 =>
    bif Decidable.decide (p1 < (3 : Int)) then
      bif p0 then
        bif Decidable.decide (p1 = (↑(nat_lit 2) : Int)) then
          (tendrilref06_Safe ((p14, p19))).bind fun r8 =>
          (tendrilref05_Reclaim (((p15, p16, p17, p18), r8))).bind fun r9 =>
          bif Decidable.decide (p1 = (↑(nat_lit 2) : Int)) then
            tendrilref07_Turn_L14x1 k (p0) (Go.RowKit.wrap64 (p1 + (1 : Int))) (p2) (p3) (p4) (p5) (p6) (p7) (p8) (p9) (p10) (p11) (p12) (p13) (p14) (r9.fst.1) (r9.fst.snd.1) (r9.fst.snd.snd.1) (r9.fst.snd.snd.2) (p19)
          else
            bif Decidable.decide (p1 = (↑(nat_lit 1) : Int)) then
              tendrilref07_Turn_L14x4 k (p0) (Go.RowKit.wrap64 (p1 + (1 : Int))) (p2) (p3) (p4) (p5) (p6) (p7) (p12) (p13) (p14) (r9.fst.1) (r9.fst.snd.1) (r9.fst.snd.snd.1) (r9.fst.snd.snd.2) (p15) (p16) (p17) (p18) (p19)
            else
              bif Decidable.decide (p1 = (↑(nat_lit 0) : Int)) then
                tendrilref07_Turn_L14x5 k (p0) (Go.RowKit.wrap64 (p1 + (1 : Int))) (p2) (p3) (p8) (p9) (p10) (p11) (p12) (p13) (p14) (r9.fst.1) (r9.fst.snd.1) (r9.fst.snd.snd.1) (r9.fst.snd.snd.2) (p15) (p16) (p17) (p18) (p19)
              else
                none
        else
          bif Decidable.decide (p1 = (↑(nat_lit 1) : Int)) then
            (tendrilref06_Safe ((p14, p19))).bind fun r10 =>
            (tendrilref05_Reclaim (((p8, p9, p10, p11), r10))).bind fun r11 =>
            bif Decidable.decide (p1 = (↑(nat_lit 2) : Int)) then
              tendrilref07_Turn_L14x1 k (p0) (Go.RowKit.wrap64 (p1 + (1 : Int))) (p2) (p3) (p4) (p5) (p6) (p7) (p8) (p9) (p10) (p11) (p12) (p13) (p14) (r11.fst.1) (r11.fst.snd.1) (r11.fst.snd.snd.1) (r11.fst.snd.snd.2) (p19)
            else
              bif Decidable.decide (p1 = (↑(nat_lit 1) : Int)) then
                tendrilref07_Turn_L14x4 k (p0) (Go.RowKit.wrap64 (p1 + (1 : Int))) (p2) (p3) (p4) (p5) (p6) (p7) (p12) (p13) (p14) (r11.fst.1) (r11.fst.snd.1) (r11.fst.snd.snd.1) (r11.fst.snd.snd.2) (p15) (p16) (p17) (p18) (p19)
              else
                bif Decidable.decide (p1 = (↑(nat_lit 0) : Int)) then
                  tendrilref07_Turn_L14x5 k (p0) (Go.RowKit.wrap64 (p1 + (1 : Int))) (p2) (p3) (p8) (p9) (p10) (p11) (p12) (p13) (p14) (r11.fst.1) (r11.fst.snd.1) (r11.fst.snd.snd.1) (r11.fst.snd.snd.2) (p15) (p16) (p17) (p18) (p19)
                else
                  none
          else
            bif Decidable.decide (p1 = (↑(nat_lit 0) : Int)) then
              (tendrilref06_Safe ((p14, p19))).bind fun r12 =>
              (tendrilref05_Reclaim (((p4, p5, p6, p7), r12))).bind fun r13 =>
              bif Decidable.decide (p1 = (↑(nat_lit 2) : Int)) then
                tendrilref07_Turn_L14x1 k (p0) (Go.RowKit.wrap64 (p1 + (1 : Int))) (p2) (p3) (p4) (p5) (p6) (p7) (p8) (p9) (p10) (p11) (p12) (p13) (p14) (r13.fst.1) (r13.fst.snd.1) (r13.fst.snd.snd.1) (r13.fst.snd.snd.2) (p19)
              else
                bif Decidable.decide (p1 = (↑(nat_lit 1) : Int)) then
                  tendrilref07_Turn_L14x4 k (p0) (Go.RowKit.wrap64 (p1 + (1 : Int))) (p2) (p3) (p4) (p5) (p6) (p7) (p12) (p13) (p14) (r13.fst.1) (r13.fst.snd.1) (r13.fst.snd.snd.1) (r13.fst.snd.snd.2) (p15) (p16) (p17) (p18) (p19)
                else
                  bif Decidable.decide (p1 = (↑(nat_lit 0) : Int)) then
                    tendrilref07_Turn_L14x5 k (p0) (Go.RowKit.wrap64 (p1 + (1 : Int))) (p2) (p3) (p8) (p9) (p10) (p11) (p12) (p13) (p14) (r13.fst.1) (r13.fst.snd.1) (r13.fst.snd.snd.1) (r13.fst.snd.snd.2) (p15) (p16) (p17) (p18) (p19)
                  else
                    none
            else
              none
      else
        tendrilref07_Turn_L14x1 k (p0) (Go.RowKit.wrap64 (p1 + (1 : Int))) (p2) (p3) (p4) (p5) (p6) (p7) (p8) (p9) (p10) (p11) (p12) (p13) (p14) (p15) (p16) (p17) (p18) (p19)
    else
      some (((p2, p3, ((p4, p5, p6, p7), (p8, p9, p10, p11), p15, p16, p17, p18), p12, p19), p0))
def tendrilref07_Turn_L14x2 : Nat → (Bool) → (Int) → (List Int) → (List Int) → (List Int) → (List Int) → (List Int) → (List Int) → (List Int) → (List Int) → (List Int) → (List Int) → (Int) → (Int) → (Int) → (List Int) → (List Int) → (List Int) → (List Int) → (List Int) → Option ((List Int × List Int × ((List Int × List Int × List Int × List Int) × (List Int × List Int × List Int × List Int) × List Int × List Int × List Int × List Int) × Int × List Int) × Bool)
  | 0, _, _, _, _, _, _, _, _, _, _, _, _, _, _, _, _, _, _, _, _ => none
  | k + 1, p0, p1, p2, p3, p4, p5, p6, p7, p8, p9, p10, p11, p12, p13, p14, p15, p16, p17, p18, p19 =>
    bif Decidable.decide (p1 < (3 : Int)) then
      bif p0 then
        bif Decidable.decide (p1 = (↑(nat_lit 2) : Int)) then
          (tendrilref06_Safe ((p14, p19))).bind fun r14 =>
          (tendrilref05_Reclaim (((p8, p9, p10, p11), r14))).bind fun r15 =>
          bif Decidable.decide (p1 = (↑(nat_lit 2) : Int)) then
            tendrilref07_Turn_L14x4 k (p0) (Go.RowKit.wrap64 (p1 + (1 : Int))) (p2) (p3) (p4) (p5) (p6) (p7) (p12) (p13) (p14) (p15) (p16) (p17) (p18) (r15.fst.1) (r15.fst.snd.1) (r15.fst.snd.snd.1) (r15.fst.snd.snd.2) (p19)
          else
            bif Decidable.decide (p1 = (↑(nat_lit 1) : Int)) then
              tendrilref07_Turn_L14x2 k (p0) (Go.RowKit.wrap64 (p1 + (1 : Int))) (p2) (p3) (p4) (p5) (p6) (p7) (p8) (p9) (p10) (p11) (p12) (p13) (p14) (r15.fst.1) (r15.fst.snd.1) (r15.fst.snd.snd.1) (r15.fst.snd.snd.2) (p19)
            else
              bif Decidable.decide (p1 = (↑(nat_lit 0) : Int)) then
                tendrilref07_Turn_L14x6 k (p0) (Go.RowKit.wrap64 (p1 + (1 : Int))) (p2) (p3) (p8) (p9) (p10) (p11) (p12) (p13) (p14) (r15.fst.1) (r15.fst.snd.1) (r15.fst.snd.snd.1) (r15.fst.snd.snd.2) (p15) (p16) (p17) (p18) (p19)
              else
                none
        else
          bif Decidable.decide (p1 = (↑(nat_lit 1) : Int)) then
            (tendrilref06_Safe ((p14, p19))).bind fun r16 =>
            (tendrilref05_Reclaim (((p15, p16, p17, p18), r16))).bind fun r17 =>
            bif Decidable.decide (p1 = (↑(nat_lit 2) : Int)) then
              tendrilref07_Turn_L14x4 k (p0) (Go.RowKit.wrap64 (p1 + (1 : Int))) (p2) (p3) (p4) (p5) (p6) (p7) (p12) (p13) (p14) (p15) (p16) (p17) (p18) (r17.fst.1) (r17.fst.snd.1) (r17.fst.snd.snd.1) (r17.fst.snd.snd.2) (p19)
            else
              bif Decidable.decide (p1 = (↑(nat_lit 1) : Int)) then
                tendrilref07_Turn_L14x2 k (p0) (Go.RowKit.wrap64 (p1 + (1 : Int))) (p2) (p3) (p4) (p5) (p6) (p7) (p8) (p9) (p10) (p11) (p12) (p13) (p14) (r17.fst.1) (r17.fst.snd.1) (r17.fst.snd.snd.1) (r17.fst.snd.snd.2) (p19)
              else
                bif Decidable.decide (p1 = (↑(nat_lit 0) : Int)) then
                  tendrilref07_Turn_L14x6 k (p0) (Go.RowKit.wrap64 (p1 + (1 : Int))) (p2) (p3) (p8) (p9) (p10) (p11) (p12) (p13) (p14) (r17.fst.1) (r17.fst.snd.1) (r17.fst.snd.snd.1) (r17.fst.snd.snd.2) (p15) (p16) (p17) (p18) (p19)
                else
                  none
          else
            bif Decidable.decide (p1 = (↑(nat_lit 0) : Int)) then
              (tendrilref06_Safe ((p14, p19))).bind fun r18 =>
              (tendrilref05_Reclaim (((p4, p5, p6, p7), r18))).bind fun r19 =>
              bif Decidable.decide (p1 = (↑(nat_lit 2) : Int)) then
                tendrilref07_Turn_L14x4 k (p0) (Go.RowKit.wrap64 (p1 + (1 : Int))) (p2) (p3) (p4) (p5) (p6) (p7) (p12) (p13) (p14) (p15) (p16) (p17) (p18) (r19.fst.1) (r19.fst.snd.1) (r19.fst.snd.snd.1) (r19.fst.snd.snd.2) (p19)
              else
                bif Decidable.decide (p1 = (↑(nat_lit 1) : Int)) then
                  tendrilref07_Turn_L14x2 k (p0) (Go.RowKit.wrap64 (p1 + (1 : Int))) (p2) (p3) (p4) (p5) (p6) (p7) (p8) (p9) (p10) (p11) (p12) (p13) (p14) (r19.fst.1) (r19.fst.snd.1) (r19.fst.snd.snd.1) (r19.fst.snd.snd.2) (p19)
                else
                  bif Decidable.decide (p1 = (↑(nat_lit 0) : Int)) then
                    tendrilref07_Turn_L14x6 k (p0) (Go.RowKit.wrap64 (p1 + (1 : Int))) (p2) (p3) (p8) (p9) (p10) (p11) (p12) (p13) (p14) (r19.fst.1) (r19.fst.snd.1) (r19.fst.snd.snd.1) (r19.fst.snd.snd.2) (p15) (p16) (p17) (p18) (p19)
                  else
                    none
            else
              none
      else
        tendrilref07_Turn_L14x2 k (p0) (Go.RowKit.wrap64 (p1 + (1 : Int))) (p2) (p3) (p4) (p5) (p6) (p7) (p8) (p9) (p10) (p11) (p12) (p13) (p14) (p15) (p16) (p17) (p18) (p19)
    else
      some (((p2, p3, ((p4, p5, p6, p7), (p15, p16, p17, p18), p8, p9, p10, p11), p12, p19), p0))
def tendrilref07_Turn_L14x3 : Nat → (Bool) → (Int) → (List Int) → (List Int) → (List Int) → (List Int) → (List Int) → (List Int) → (List Int) → (List Int) → (List Int) → (List Int) → (Int) → (Int) → (Int) → (List Int) → (List Int) → (List Int) → (List Int) → (List Int) → Option ((List Int × List Int × ((List Int × List Int × List Int × List Int) × (List Int × List Int × List Int × List Int) × List Int × List Int × List Int × List Int) × Int × List Int) × Bool)
  | 0, _, _, _, _, _, _, _, _, _, _, _, _, _, _, _, _, _, _, _, _ => none
  | k + 1, p0, p1, p2, p3, p4, p5, p6, p7, p8, p9, p10, p11, p12, p13, p14, p15, p16, p17, p18, p19 =>
    bif Decidable.decide (p1 < (3 : Int)) then
      bif p0 then
        bif Decidable.decide (p1 = (↑(nat_lit 2) : Int)) then
          (tendrilref06_Safe ((p14, p19))).bind fun r20 =>
          (tendrilref05_Reclaim (((p8, p9, p10, p11), r20))).bind fun r21 =>
          bif Decidable.decide (p1 = (↑(nat_lit 2) : Int)) then
            tendrilref07_Turn_L14x5 k (p0) (Go.RowKit.wrap64 (p1 + (1 : Int))) (p2) (p3) (p4) (p5) (p6) (p7) (p12) (p13) (p14) (p15) (p16) (p17) (p18) (r21.fst.1) (r21.fst.snd.1) (r21.fst.snd.snd.1) (r21.fst.snd.snd.2) (p19)
          else
            bif Decidable.decide (p1 = (↑(nat_lit 1) : Int)) then
              tendrilref07_Turn_L14x6 k (p0) (Go.RowKit.wrap64 (p1 + (1 : Int))) (p2) (p3) (p8) (p9) (p10) (p11) (p12) (p13) (p14) (p15) (p16) (p17) (p18) (r21.fst.1) (r21.fst.snd.1) (r21.fst.snd.snd.1) (r21.fst.snd.snd.2) (p19)
            else
              bif Decidable.decide (p1 = (↑(nat_lit 0) : Int)) then
                tendrilref07_Turn_L14x3 k (p0) (Go.RowKit.wrap64 (p1 + (1 : Int))) (p2) (p3) (p4) (p5) (p6) (p7) (p8) (p9) (p10) (p11) (p12) (p13) (p14) (r21.fst.1) (r21.fst.snd.1) (r21.fst.snd.snd.1) (r21.fst.snd.snd.2) (p19)
              else
                none
        else
          bif Decidable.decide (p1 = (↑(nat_lit 1) : Int)) then
            (tendrilref06_Safe ((p14, p19))).bind fun r22 =>
            (tendrilref05_Reclaim (((p4, p5, p6, p7), r22))).bind fun r23 =>
            bif Decidable.decide (p1 = (↑(nat_lit 2) : Int)) then
              tendrilref07_Turn_L14x5 k (p0) (Go.RowKit.wrap64 (p1 + (1 : Int))) (p2) (p3) (p4) (p5) (p6) (p7) (p12) (p13) (p14) (p15) (p16) (p17) (p18) (r23.fst.1) (r23.fst.snd.1) (r23.fst.snd.snd.1) (r23.fst.snd.snd.2) (p19)
            else
              bif Decidable.decide (p1 = (↑(nat_lit 1) : Int)) then
                tendrilref07_Turn_L14x6 k (p0) (Go.RowKit.wrap64 (p1 + (1 : Int))) (p2) (p3) (p8) (p9) (p10) (p11) (p12) (p13) (p14) (p15) (p16) (p17) (p18) (r23.fst.1) (r23.fst.snd.1) (r23.fst.snd.snd.1) (r23.fst.snd.snd.2) (p19)
              else
                bif Decidable.decide (p1 = (↑(nat_lit 0) : Int)) then
                  tendrilref07_Turn_L14x3 k (p0) (Go.RowKit.wrap64 (p1 + (1 : Int))) (p2) (p3) (p4) (p5) (p6) (p7) (p8) (p9) (p10) (p11) (p12) (p13) (p14) (r23.fst.1) (r23.fst.snd.1) (r23.fst.snd.snd.1) (r23.fst.snd.snd.2) (p19)
                else
                  none
          else
            bif Decidable.decide (p1 = (↑(nat_lit 0) : Int)) then
              (tendrilref06_Safe ((p14, p19))).bind fun r24 =>
              (tendrilref05_Reclaim (((p15, p16, p17, p18), r24))).bind fun r25 =>
              bif Decidable.decide (p1 = (↑(nat_lit 2) : Int)) then
                tendrilref07_Turn_L14x5 k (p0) (Go.RowKit.wrap64 (p1 + (1 : Int))) (p2) (p3) (p4) (p5) (p6) (p7) (p12) (p13) (p14) (p15) (p16) (p17) (p18) (r25.fst.1) (r25.fst.snd.1) (r25.fst.snd.snd.1) (r25.fst.snd.snd.2) (p19)
              else
                bif Decidable.decide (p1 = (↑(nat_lit 1) : Int)) then
                  tendrilref07_Turn_L14x6 k (p0) (Go.RowKit.wrap64 (p1 + (1 : Int))) (p2) (p3) (p8) (p9) (p10) (p11) (p12) (p13) (p14) (p15) (p16) (p17) (p18) (r25.fst.1) (r25.fst.snd.1) (r25.fst.snd.snd.1) (r25.fst.snd.snd.2) (p19)
                else
                  bif Decidable.decide (p1 = (↑(nat_lit 0) : Int)) then
                    tendrilref07_Turn_L14x3 k (p0) (Go.RowKit.wrap64 (p1 + (1 : Int))) (p2) (p3) (p4) (p5) (p6) (p7) (p8) (p9) (p10) (p11) (p12) (p13) (p14) (r25.fst.1) (r25.fst.snd.1) (r25.fst.snd.snd.1) (r25.fst.snd.snd.2) (p19)
                  else
                    none
            else
              none
      else
        tendrilref07_Turn_L14x3 k (p0) (Go.RowKit.wrap64 (p1 + (1 : Int))) (p2) (p3) (p4) (p5) (p6) (p7) (p8) (p9) (p10) (p11) (p12) (p13) (p14) (p15) (p16) (p17) (p18) (p19)
    else
      some (((p2, p3, ((p15, p16, p17, p18), (p4, p5, p6, p7), p8, p9, p10, p11), p12, p19), p0))
def tendrilref07_Turn_L14x4 : Nat → (Bool) → (Int) → (List Int) → (List Int) → (List Int) → (List Int) → (List Int) → (List Int) → (Int) → (Int) → (Int) → (List Int) → (List Int) → (List Int) → (List Int) → (List Int) → (List Int) → (List Int) → (List Int) → (List Int) → Option ((List Int × List Int × ((List Int × List Int × List Int × List Int) × (List Int × List Int × List Int × List Int) × List Int × List Int × List Int × List Int) × Int × List Int) × Bool)
  | 0, _, _, _, _, _, _, _, _, _, _, _, _, _, _, _, _, _, _, _, _ => none
  | k + 1, p0, p1, p2, p3, p4, p5, p6, p7, p8, p9, p10, p11, p12, p13, p14, p15, p16, p17, p18, p19 =>
    bif Decidable.decide (p1 < (3 : Int)) then
      bif p0 then
        bif Decidable.decide (p1 = (↑(nat_lit 2) : Int)) then
          (tendrilref06_Safe ((p10, p19))).bind fun r26 =>
          (tendrilref05_Reclaim (((p15, p16, p17, p18), r26))).bind fun r27 =>
          bif Decidable.decide (p1 = (↑(nat_lit 2) : Int)) then
            tendrilref07_Turn_L14x4 k (p0) (Go.RowKit.wrap64 (p1 + (1 : Int))) (p2) (p3) (p4) (p5) (p6) (p7) (p8) (p9) (p10) (p11) (p12) (p13) (p14) (r27.fst.1) (r27.fst.snd.1) (r27.fst.snd.snd.1) (r27.fst.snd.snd.2) (p19)
          else
            bif Decidable.decide (p1 = (↑(nat_lit 1) : Int)) then
              tendrilref07_Turn_L14x4 k (p0) (Go.RowKit.wrap64 (p1 + (1 : Int))) (p2) (p3) (p4) (p5) (p6) (p7) (p8) (p9) (p10) (r27.fst.1) (r27.fst.snd.1) (r27.fst.snd.snd.1) (r27.fst.snd.snd.2) (p15) (p16) (p17) (p18) (p19)
            else
              bif Decidable.decide (p1 = (↑(nat_lit 0) : Int)) then
                tendrilref07_Turn_L14x7 k (p0) (Go.RowKit.wrap64 (p1 + (1 : Int))) (p2) (p3) (p8) (p9) (p10) (r27.fst.1) (r27.fst.snd.1) (r27.fst.snd.snd.1) (r27.fst.snd.snd.2) (p11) (p12) (p13) (p14) (p15) (p16) (p17) (p18) (p19)
              else
                none
        else
          bif Decidable.decide (p1 = (↑(nat_lit 1) : Int)) then
            (tendrilref06_Safe ((p10, p19))).bind fun r28 =>
            (tendrilref05_Reclaim (((p11, p12, p13, p14), r28))).bind fun r29 =>
            bif Decidable.decide (p1 = (↑(nat_lit 2) : Int)) then
              tendrilref07_Turn_L14x4 k (p0) (Go.RowKit.wrap64 (p1 + (1 : Int))) (p2) (p3) (p4) (p5) (p6) (p7) (p8) (p9) (p10) (p11) (p12) (p13) (p14) (r29.fst.1) (r29.fst.snd.1) (r29.fst.snd.snd.1) (r29.fst.snd.snd.2) (p19)
            else
              bif Decidable.decide (p1 = (↑(nat_lit 1) : Int)) then
                tendrilref07_Turn_L14x4 k (p0) (Go.RowKit.wrap64 (p1 + (1 : Int))) (p2) (p3) (p4) (p5) (p6) (p7) (p8) (p9) (p10) (r29.fst.1) (r29.fst.snd.1) (r29.fst.snd.snd.1) (r29.fst.snd.snd.2) (p15) (p16) (p17) (p18) (p19)
              else
                bif Decidable.decide (p1 = (↑(nat_lit 0) : Int)) then
                  tendrilref07_Turn_L14x7 k (p0) (Go.RowKit.wrap64 (p1 + (1 : Int))) (p2) (p3) (p8) (p9) (p10) (r29.fst.1) (r29.fst.snd.1) (r29.fst.snd.snd.1) (r29.fst.snd.snd.2) (p11) (p12) (p13) (p14) (p15) (p16) (p17) (p18) (p19)
                else
                  none
          else
            bif Decidable.decide (p1 = (↑(nat_lit 0) : Int)) then
              (tendrilref06_Safe ((p10, p19))).bind fun r30 =>
              (tendrilref05_Reclaim (((p4, p5, p6, p7), r30))).bind fun r31 =>
              bif Decidable.decide (p1 = (↑(nat_lit 2) : Int)) then
                tendrilref07_Turn_L14x4 k (p0) (Go.RowKit.wrap64 (p1 + (1 : Int))) (p2) (p3) (p4) (p5) (p6) (p7) (p8) (p9) (p10) (p11) (p12) (p13) (p14) (r31.fst.1) (r31.fst.snd.1) (r31.fst.snd.snd.1) (r31.fst.snd.snd.2) (p19)
              else
                bif Decidable.decide (p1 = (↑(nat_lit 1) : Int)) then
                  tendrilref07_Turn_L14x4 k (p0) (Go.RowKit.wrap64 (p1 + (1 : Int))) (p2) (p3) (p4) (p5) (p6) (p7) (p8) (p9) (p10) (r31.fst.1) (r31.fst.snd.1) (r31.fst.snd.snd.1) (r31.fst.snd.snd.2) (p15) (p16) (p17) (p18) (p19)
                else
                  bif Decidable.decide (p1 = (↑(nat_lit 0) : Int)) then
                    tendrilref07_Turn_L14x7 k (p0) (Go.RowKit.wrap64 (p1 + (1 : Int))) (p2) (p3) (p8) (p9) (p10) (r31.fst.1) (r31.fst.snd.1) (r31.fst.snd.snd.1) (r31.fst.snd.snd.2) (p11) (p12) (p13) (p14) (p15) (p16) (p17) (p18) (p19)
                  else
                    none
            else
              none
      else
        tendrilref07_Turn_L14x4 k (p0) (Go.RowKit.wrap64 (p1 + (1 : Int))) (p2) (p3) (p4) (p5) (p6) (p7) (p8) (p9) (p10) (p11) (p12) (p13) (p14) (p15) (p16) (p17) (p18) (p19)
    else
      some (((p2, p3, ((p4, p5, p6, p7), (p11, p12, p13, p14), p15, p16, p17, p18), p8, p19), p0))
def tendrilref07_Turn_L14x5 : Nat → (Bool) → (Int) → (List Int) → (List Int) → (List Int) → (List Int) → (List Int) → (List Int) → (Int) → (Int) → (Int) → (List Int) → (List Int) → (List Int) → (List Int) → (List Int) → (List Int) → (List Int) → (List Int) → (List Int) → Option ((List Int × List Int × ((List Int × List Int × List Int × List Int) × (List Int × List Int × List Int × List Int) × List Int × List Int × List Int × List Int) × Int × List Int) × Bool)
  | 0, _, _, _, _, _, _, _, _, _, _, _, _, _, _, _, _, _, _, _, _ => none
  | k + 1, p0, p1, p2, p3, p4, p5, p6, p7, p8, p9, p10, p11, p12, p13, p14, p15, p16, p17, p18, p19 =>
    bif Decidable.decide (p1 < (3 : Int)) then
      bif p0 then
        bif Decidable.decide (p1 = (↑(nat_lit 2) : Int)) then
          (tendrilref06_Safe ((p10, p19))).bind fun r32 =>
          (tendrilref05_Reclaim (((p15, p16, p17, p18), r32))).bind fun r33 =>
          bif Decidable.decide (p1 = (↑(nat_lit 2) : Int)) then
            tendrilref07_Turn_L14x5 k (p0) (Go.RowKit.wrap64 (p1 + (1 : Int))) (p2) (p3) (p4) (p5) (p6) (p7) (p8) (p9) (p10) (p11) (p12) (p13) (p14) (r33.fst.1) (r33.fst.snd.1) (r33.fst.snd.snd.1) (r33.fst.snd.snd.2) (p19)
          else
            bif Decidable.decide (p1 = (↑(nat_lit 1) : Int)) then
              tendrilref07_Turn_L14x7 k (p0) (Go.RowKit.wrap64 (p1 + (1 : Int))) (p2) (p3) (p8) (p9) (p10) (p11) (p12) (p13) (p14) (r33.fst.1) (r33.fst.snd.1) (r33.fst.snd.snd.1) (r33.fst.snd.snd.2) (p15) (p16) (p17) (p18) (p19)
            else
              bif Decidable.decide (p1 = (↑(nat_lit 0) : Int)) then
                tendrilref07_Turn_L14x5 k (p0) (Go.RowKit.wrap64 (p1 + (1 : Int))) (p2) (p3) (p4) (p5) (p6) (p7) (p8) (p9) (p10) (r33.fst.1) (r33.fst.snd.1) (r33.fst.snd.snd.1) (r33.fst.snd.snd.2) (p15) (p16) (p17) (p18) (p19)
              else
                none
        else
          bif Decidable.decide (p1 = (↑(nat_lit 1) : Int)) then
            (tendrilref06_Safe ((p10, p19))).bind fun r34 =>
            (tendrilref05_Reclaim (((p4, p5, p6, p7), r34))).bind fun r35 =>
            bif Decidable.decide (p1 = (↑(nat_lit 2) : Int)) then
              tendrilref07_Turn_L14x5 k (p0) (Go.RowKit.wrap64 (p1 + (1 : Int))) (p2) (p3) (p4) (p5) (p6) (p7) (p8) (p9) (p10) (p11) (p12) (p13) (p14) (r35.fst.1) (r35.fst.snd.1) (r35.fst.snd.snd.1) (r35.fst.snd.snd.2) (p19)
            else
              bif Decidable.decide (p1 = (↑(nat_lit 1) : Int)) then
                tendrilref07_Turn_L14x7 k (p0) (Go.RowKit.wrap64 (p1 + (1 : Int))) (p2) (p3) (p8) (p9) (p10) (p11) (p12) (p13) (p14) (r35.fst.1) (r35.fst.snd.1) (r35.fst.snd.snd.1) (r35.fst.snd.snd.2) (p15) (p16) (p17) (p18) (p19)
              else
                bif Decidable.decide (p1 = (↑(nat_lit 0) : Int)) then
                  tendrilref07_Turn_L14x5 k (p0) (Go.RowKit.wrap64 (p1 + (1 : Int))) (p2) (p3) (p4) (p5) (p6) (p7) (p8) (p9) (p10) (r35.fst.1) (r35.fst.snd.1) (r35.fst.snd.snd.1) (r35.fst.snd.snd.2) (p15) (p16) (p17) (p18) (p19)
                else
                  none
          else
            bif Decidable.decide (p1 = (↑(nat_lit 0) : Int)) then
              (tendrilref06_Safe ((p10, p19))).bind fun r36 =>
              (tendrilref05_Reclaim (((p11, p12, p13, p14), r36))).bind fun r37 =>
              bif Decidable.decide (p1 = (↑(nat_lit 2) : Int)) then
                tendrilref07_Turn_L14x5 k (p0) (Go.RowKit.wrap64 (p1 + (1 : Int))) (p2) (p3) (p4) (p5) (p6) (p7) (p8) (p9) (p10) (p11) (p12) (p13) (p14) (r37.fst.1) (r37.fst.snd.1) (r37.fst.snd.snd.1) (r37.fst.snd.snd.2) (p19)
              else
                bif Decidable.decide (p1 = (↑(nat_lit 1) : Int)) then
                  tendrilref07_Turn_L14x7 k (p0) (Go.RowKit.wrap64 (p1 + (1 : Int))) (p2) (p3) (p8) (p9) (p10) (p11) (p12) (p13) (p14) (r37.fst.1) (r37.fst.snd.1) (r37.fst.snd.snd.1) (r37.fst.snd.snd.2) (p15) (p16) (p17) (p18) (p19)
                else
                  bif Decidable.decide (p1 = (↑(nat_lit 0) : Int)) then
                    tendrilref07_Turn_L14x5 k (p0) (Go.RowKit.wrap64 (p1 + (1 : Int))) (p2) (p3) (p4) (p5) (p6) (p7) (p8) (p9) (p10) (r37.fst.1) (r37.fst.snd.1) (r37.fst.snd.snd.1) (r37.fst.snd.snd.2) (p15) (p16) (p17) (p18) (p19)
                  else
                    none
            else
              none
      else
        tendrilref07_Turn_L14x5 k (p0) (Go.RowKit.wrap64 (p1 + (1 : Int))) (p2) (p3) (p4) (p5) (p6) (p7) (p8) (p9) (p10) (p11) (p12) (p13) (p14) (p15) (p16) (p17) (p18) (p19)
    else
      some (((p2, p3, ((p11, p12, p13, p14), (p4, p5, p6, p7), p15, p16, p17, p18), p8, p19), p0))
def tendrilref07_Turn_L14x6 : Nat → (Bool) → (Int) → (List Int) → (List Int) → (List Int) → (List Int) → (List Int) → (List Int) → (Int) → (Int) → (Int) → (List Int) → (List Int) → (List Int) → (List Int) → (List Int) → (List Int) → (List Int) → (List Int) → (List Int) → Option ((List Int × List Int × ((List Int × List Int × List Int × List Int) × (List Int × List Int × List Int × List Int) × List Int × List Int × List Int × List Int) × Int × List Int) × Bool)
  | 0, _, _, _, _, _, _, _, _, _, _, _, _, _, _, _, _, _, _, _, _ => none
  | k + 1, p0, p1, p2, p3, p4, p5, p6, p7, p8, p9, p10, p11, p12, p13, p14, p15, p16, p17, p18, p19 =>
    bif Decidable.decide (p1 < (3 : Int)) then
      bif p0 then
        bif Decidable.decide (p1 = (↑(nat_lit 2) : Int)) then
          (tendrilref06_Safe ((p10, p19))).bind fun r38 =>
          (tendrilref05_Reclaim (((p4, p5, p6, p7), r38))).bind fun r39 =>
          bif Decidable.decide (p1 = (↑(nat_lit 2) : Int)) then
            tendrilref07_Turn_L14x7 k (p0) (Go.RowKit.wrap64 (p1 + (1 : Int))) (p2) (p3) (p8) (p9) (p10) (p11) (p12) (p13) (p14) (p15) (p16) (p17) (p18) (r39.fst.1) (r39.fst.snd.1) (r39.fst.snd.snd.1) (r39.fst.snd.snd.2) (p19)
          else
            bif Decidable.decide (p1 = (↑(nat_lit 1) : Int)) then
              tendrilref07_Turn_L14x6 k (p0) (Go.RowKit.wrap64 (p1 + (1 : Int))) (p2) (p3) (p4) (p5) (p6) (p7) (p8) (p9) (p10) (p11) (p12) (p13) (p14) (r39.fst.1) (r39.fst.snd.1) (r39.fst.snd.snd.1) (r39.fst.snd.snd.2) (p19)
            else
              bif Decidable.decide (p1 = (↑(nat_lit 0) : Int)) then
                tendrilref07_Turn_L14x6 k (p0) (Go.RowKit.wrap64 (p1 + (1 : Int))) (p2) (p3) (p4) (p5) (p6) (p7) (p8) (p9) (p10) (r39.fst.1) (r39.fst.snd.1) (r39.fst.snd.snd.1) (r39.fst.snd.snd.2) (p15) (p16) (p17) (p18) (p19)
              else
                none
        else
          bif Decidable.decide (p1 = (↑(nat_lit 1) : Int)) then
            (tendrilref06_Safe ((p10, p19))).bind fun r40 =>
            (tendrilref05_Reclaim (((p15, p16, p17, p18), r40))).bind fun r41 =>
            bif Decidable.decide (p1 = (↑(nat_lit 2) : Int)) then
              tendrilref07_Turn_L14x7 k (p0) (Go.RowKit.wrap64 (p1 + (1 : Int))) (p2) (p3) (p8) (p9) (p10) (p11) (p12) (p13) (p14) (p15) (p16) (p17) (p18) (r41.fst.1) (r41.fst.snd.1) (r41.fst.snd.snd.1) (r41.fst.snd.snd.2) (p19)
            else
              bif Decidable.decide (p1 = (↑(nat_lit 1) : Int)) then
                tendrilref07_Turn_L14x6 k (p0) (Go.RowKit.wrap64 (p1 + (1 : Int))) (p2) (p3) (p4) (p5) (p6) (p7) (p8) (p9) (p10) (p11) (p12) (p13) (p14) (r41.fst.1) (r41.fst.snd.1) (r41.fst.snd.snd.1) (r41.fst.snd.snd.2) (p19)
              else
                bif Decidable.decide (p1 = (↑(nat_lit 0) : Int)) then
                  tendrilref07_Turn_L14x6 k (p0) (Go.RowKit.wrap64 (p1 + (1 : Int))) (p2) (p3) (p4) (p5) (p6) (p7) (p8) (p9) (p10) (r41.fst.1) (r41.fst.snd.1) (r41.fst.snd.snd.1) (r41.fst.snd.snd.2) (p15) (p16) (p17) (p18) (p19)
                else
                  none
          else
            bif Decidable.decide (p1 = (↑(nat_lit 0) : Int)) then
              (tendrilref06_Safe ((p10, p19))).bind fun r42 =>
              (tendrilref05_Reclaim (((p11, p12, p13, p14), r42))).bind fun r43 =>
              bif Decidable.decide (p1 = (↑(nat_lit 2) : Int)) then
                tendrilref07_Turn_L14x7 k (p0) (Go.RowKit.wrap64 (p1 + (1 : Int))) (p2) (p3) (p8) (p9) (p10) (p11) (p12) (p13) (p14) (p15) (p16) (p17) (p18) (r43.fst.1) (r43.fst.snd.1) (r43.fst.snd.snd.1) (r43.fst.snd.snd.2) (p19)
              else
                bif Decidable.decide (p1 = (↑(nat_lit 1) : Int)) then
                  tendrilref07_Turn_L14x6 k (p0) (Go.RowKit.wrap64 (p1 + (1 : Int))) (p2) (p3) (p4) (p5) (p6) (p7) (p8) (p9) (p10) (p11) (p12) (p13) (p14) (r43.fst.1) (r43.fst.snd.1) (r43.fst.snd.snd.1) (r43.fst.snd.snd.2) (p19)
                else
                  bif Decidable.decide (p1 = (↑(nat_lit 0) : Int)) then
                    tendrilref07_Turn_L14x6 k (p0) (Go.RowKit.wrap64 (p1 + (1 : Int))) (p2) (p3) (p4) (p5) (p6) (p7) (p8) (p9) (p10) (r43.fst.1) (r43.fst.snd.1) (r43.fst.snd.snd.1) (r43.fst.snd.snd.2) (p15) (p16) (p17) (p18) (p19)
                  else
                    none
            else
              none
      else
        tendrilref07_Turn_L14x6 k (p0) (Go.RowKit.wrap64 (p1 + (1 : Int))) (p2) (p3) (p4) (p5) (p6) (p7) (p8) (p9) (p10) (p11) (p12) (p13) (p14) (p15) (p16) (p17) (p18) (p19)
    else
      some (((p2, p3, ((p11, p12, p13, p14), (p15, p16, p17, p18), p4, p5, p6, p7), p8, p19), p0))
def tendrilref07_Turn_L14x7 : Nat → (Bool) → (Int) → (List Int) → (List Int) → (Int) → (Int) → (Int) → (List Int) → (List Int) → (List Int) → (List Int) → (List Int) → (List Int) → (List Int) → (List Int) → (List Int) → (List Int) → (List Int) → (List Int) → (List Int) → Option ((List Int × List Int × ((List Int × List Int × List Int × List Int) × (List Int × List Int × List Int × List Int) × List Int × List Int × List Int × List Int) × Int × List Int) × Bool)
  | 0, _, _, _, _, _, _, _, _, _, _, _, _, _, _, _, _, _, _, _, _ => none
  | k + 1, p0, p1, p2, p3, p4, p5, p6, p7, p8, p9, p10, p11, p12, p13, p14, p15, p16, p17, p18, p19 =>
    bif Decidable.decide (p1 < (3 : Int)) then
      bif p0 then
        bif Decidable.decide (p1 = (↑(nat_lit 2) : Int)) then
          (tendrilref06_Safe ((p6, p19))).bind fun r44 =>
          (tendrilref05_Reclaim (((p15, p16, p17, p18), r44))).bind fun r45 =>
          bif Decidable.decide (p1 = (↑(nat_lit 2) : Int)) then
            tendrilref07_Turn_L14x7 k (p0) (Go.RowKit.wrap64 (p1 + (1 : Int))) (p2) (p3) (p4) (p5) (p6) (p7) (p8) (p9) (p10) (p11) (p12) (p13) (p14) (r45.fst.1) (r45.fst.snd.1) (r45.fst.snd.snd.1) (r45.fst.snd.snd.2) (p19)
          else
            bif Decidable.decide (p1 = (↑(nat_lit 1) : Int)) then
              tendrilref07_Turn_L14x7 k (p0) (Go.RowKit.wrap64 (p1 + (1 : Int))) (p2) (p3) (p4) (p5) (p6) (p7) (p8) (p9) (p10) (r45.fst.1) (r45.fst.snd.1) (r45.fst.snd.snd.1) (r45.fst.snd.snd.2) (p15) (p16) (p17) (p18) (p19)
            else
              bif Decidable.decide (p1 = (↑(nat_lit 0) : Int)) then
                tendrilref07_Turn_L14x7 k (p0) (Go.RowKit.wrap64 (p1 + (1 : Int))) (p2) (p3) (p4) (p5) (p6) (r45.fst.1) (r45.fst.snd.1) (r45.fst.snd.snd.1) (r45.fst.snd.snd.2) (p11) (p12) (p13) (p14) (p15) (p16) (p17) (p18) (p19)
              else
                none
        else
          bif Decidable.decide (p1 = (↑(nat_lit 1) : Int)) then
            (tendrilref06_Safe ((p6, p19))).bind fun r46 =>
            (tendrilref05_Reclaim (((p11, p12, p13, p14), r46))).bind fun r47 =>
            bif Decidable.decide (p1 = (↑(nat_lit 2) : Int)) then
              tendrilref07_Turn_L14x7 k (p0) (Go.RowKit.wrap64 (p1 + (1 : Int))) (p2) (p3) (p4) (p5) (p6) (p7) (p8) (p9) (p10) (p11) (p12) (p13) (p14) (r47.fst.1) (r47.fst.snd.1) (r47.fst.snd.snd.1) (r47.fst.snd.snd.2) (p19)
            else
              bif Decidable.decide (p1 = (↑(nat_lit 1) : Int)) then
                tendrilref07_Turn_L14x7 k (p0) (Go.RowKit.wrap64 (p1 + (1 : Int))) (p2) (p3) (p4) (p5) (p6) (p7) (p8) (p9) (p10) (r47.fst.1) (r47.fst.snd.1) (r47.fst.snd.snd.1) (r47.fst.snd.snd.2) (p15) (p16) (p17) (p18) (p19)
              else
                bif Decidable.decide (p1 = (↑(nat_lit 0) : Int)) then
                  tendrilref07_Turn_L14x7 k (p0) (Go.RowKit.wrap64 (p1 + (1 : Int))) (p2) (p3) (p4) (p5) (p6) (r47.fst.1) (r47.fst.snd.1) (r47.fst.snd.snd.1) (r47.fst.snd.snd.2) (p11) (p12) (p13) (p14) (p15) (p16) (p17) (p18) (p19)
                else
                  none
          else
            bif Decidable.decide (p1 = (↑(nat_lit 0) : Int)) then
              (tendrilref06_Safe ((p6, p19))).bind fun r48 =>
              (tendrilref05_Reclaim (((p7, p8, p9, p10), r48))).bind fun r49 =>
              bif Decidable.decide (p1 = (↑(nat_lit 2) : Int)) then
                tendrilref07_Turn_L14x7 k (p0) (Go.RowKit.wrap64 (p1 + (1 : Int))) (p2) (p3) (p4) (p5) (p6) (p7) (p8) (p9) (p10) (p11) (p12) (p13) (p14) (r49.fst.1) (r49.fst.snd.1) (r49.fst.snd.snd.1) (r49.fst.snd.snd.2) (p19)
              else
                bif Decidable.decide (p1 = (↑(nat_lit 1) : Int)) then
                  tendrilref07_Turn_L14x7 k (p0) (Go.RowKit.wrap64 (p1 + (1 : Int))) (p2) (p3) (p4) (p5) (p6) (p7) (p8) (p9) (p10) (r49.fst.1) (r49.fst.snd.1) (r49.fst.snd.snd.1) (r49.fst.snd.snd.2) (p15) (p16) (p17) (p18) (p19)
                else
                  bif Decidable.decide (p1 = (↑(nat_lit 0) : Int)) then
                    tendrilref07_Turn_L14x7 k (p0) (Go.RowKit.wrap64 (p1 + (1 : Int))) (p2) (p3) (p4) (p5) (p6) (r49.fst.1) (r49.fst.snd.1) (r49.fst.snd.snd.1) (r49.fst.snd.snd.2) (p11) (p12) (p13) (p14) (p15) (p16) (p17) (p18) (p19)
                  else
                    none
            else
              none
      else
        tendrilref07_Turn_L14x7 k (p0) (Go.RowKit.wrap64 (p1 + (1 : Int))) (p2) (p3) (p4) (p5) (p6) (p7) (p8) (p9) (p10) (p11) (p12) (p13) (p14) (p15) (p16) (p17) (p18) (p19)
    else
      some (((p2, p3, ((p7, p8, p9, p10), (p11, p12, p13, p14), p15, p16, p17, p18), p4, p19), p0))
end
def tendrilref07_Turn_K (K : Nat) (x : List Int × List Int × ((List Int × List Int × List Int × List Int) × (List Int × List Int × List Int × List Int) × List Int × List Int × List Int × List Int) × Int × List Int) : Option ((List Int × List Int × ((List Int × List Int × List Int × List Int) × (List Int × List Int × List Int × List Int) × List Int × List Int × List Int × List Int) × Int × List Int) × Bool) :=
  (tendrilref07_Check ((x.1, x.snd.1, ((x.snd.snd.fst.fst.1, x.snd.snd.fst.fst.snd.1, x.snd.snd.fst.fst.snd.snd.1, x.snd.snd.fst.fst.snd.snd.2), (x.snd.snd.fst.snd.fst.1, x.snd.snd.fst.snd.fst.snd.1, x.snd.snd.fst.snd.fst.snd.snd.1, x.snd.snd.fst.snd.fst.snd.snd.2), x.snd.snd.fst.snd.snd.1, x.snd.snd.fst.snd.snd.snd.1, x.snd.snd.fst.snd.snd.snd.snd.1, x.snd.snd.fst.snd.snd.snd.snd.2), x.snd.snd.snd.1, x.snd.snd.snd.2))).bind fun r0 =>
  bif r0 != (0 : Int) then
    some ((([], [], (([], [], [], []), ([], [], [], []), [], [], [], []), (0 : Int), []), Bool.false))
  else
    (tendrilref06_Turn ((x.snd.snd.snd.1, x.snd.snd.snd.2))).bind fun r1 =>
    tendrilref07_Turn_L14 K (r1.2) ((0 : Int)) (x.1) (x.snd.1) (x.snd.snd.fst.fst.1) (x.snd.snd.fst.fst.snd.1) (x.snd.snd.fst.fst.snd.snd.1) (x.snd.snd.fst.fst.snd.snd.2) (x.snd.snd.fst.snd.fst.1) (x.snd.snd.fst.snd.fst.snd.1) (x.snd.snd.fst.snd.fst.snd.snd.1) (x.snd.snd.fst.snd.fst.snd.snd.2) (x.snd.snd.fst.snd.snd.1) (x.snd.snd.fst.snd.snd.snd.1) (x.snd.snd.fst.snd.snd.snd.snd.1) (x.snd.snd.fst.snd.snd.snd.snd.2) (r1.fst.1) ((0 : Int)) (r1.fst.1) (r1.fst.2)
def tendrilref07_Turn (x : ((List Int) × ((List Int) × ((((List Int) × ((List Int) × ((List Int) × (List Int)))) × (((List Int) × ((List Int) × ((List Int) × (List Int)))) × ((List Int) × ((List Int) × ((List Int) × (List Int)))))) × (Int × (List Int)))))) : Option (((List Int) × ((List Int) × ((((List Int) × ((List Int) × ((List Int) × (List Int)))) × (((List Int) × ((List Int) × ((List Int) × (List Int)))) × ((List Int) × ((List Int) × ((List Int) × (List Int)))))) × (Int × (List Int))))) × Bool) := tendrilref07_Turn_K 2000000 x
def tendrilref07_Turn_S : Sig := ⟨[⟨true, (.pair (.sl .int) (.pair (.sl .int) (.pair (.pair (.pair (.sl .int) (.pair (.sl .int) (.pair (.sl .int) (.sl .int)))) (.pair (.pair (.sl .int) (.pair (.sl .int) (.pair (.sl .int) (.sl .int)))) (.pair (.sl .int) (.pair (.sl .int) (.pair (.sl .int) (.sl .int)))))) (.pair .int (.sl .int)))))⟩], [⟨true, (.pair (.sl .int) (.pair (.sl .int) (.pair (.pair (.pair (.sl .int) (.pair (.sl .int) (.pair (.sl .int) (.sl .int)))) (.pair (.pair (.sl .int) (.pair (.sl .int) (.pair (.sl .int) (.sl .int)))) (.pair (.sl .int) (.pair (.sl .int) (.pair (.sl .int) (.sl .int)))))) (.pair .int (.sl .int)))))⟩, ⟨false, .bool⟩], false, tendrilref07_Turn⟩
/-! tendril/era.Unpin -/
def era_Unpin (x : (Int × List Int) × Int) : Option ((Int × List Int) × Int) :=
  (era_pinned (((x.fst.1, x.fst.2), x.2))).bind fun r0 =>
  bif r0.2 != (0 : Int) then
    some ((((0 : Int), []), r0.2))
  else
    bif r0.1 == (-1 : Int) then
      some ((((0 : Int), []), (2 : Int)))
    else
      (era_with (((x.fst.1, x.fst.2), x.2, (-1 : Int)))).bind fun r1 =>
      some (((r1.1, r1.2), (0 : Int)))
def era_Unpin_S : Sig := ⟨[⟨true, (.pair .int (.sl .int))⟩, ⟨false, .int⟩], [⟨true, (.pair .int (.sl .int))⟩, ⟨false, .int⟩], true, era_Unpin⟩
/-! tendril/arena.End -/
def arena_End (x : (List Int × List Int × ((List Int × List Int × List Int × List Int) × (List Int × List Int × List Int × List Int) × List Int × List Int × List Int × List Int) × Int × List Int) × Int) : Option ((List Int × List Int × ((List Int × List Int × List Int × List Int) × (List Int × List Int × List Int × List Int) × List Int × List Int × List Int × List Int) × Int × List Int) × Int) :=
  (arena_may (((x.fst.1, x.fst.snd.1, ((x.fst.snd.snd.fst.fst.1, x.fst.snd.snd.fst.fst.snd.1, x.fst.snd.snd.fst.fst.snd.snd.1, x.fst.snd.snd.fst.fst.snd.snd.2), (x.fst.snd.snd.fst.snd.fst.1, x.fst.snd.snd.fst.snd.fst.snd.1, x.fst.snd.snd.fst.snd.fst.snd.snd.1, x.fst.snd.snd.fst.snd.fst.snd.snd.2), x.fst.snd.snd.fst.snd.snd.1, x.fst.snd.snd.fst.snd.snd.snd.1, x.fst.snd.snd.fst.snd.snd.snd.snd.1, x.fst.snd.snd.fst.snd.snd.snd.snd.2), x.fst.snd.snd.snd.1, x.fst.snd.snd.snd.2), (1 : Int)))).bind fun r0 =>
  bif !r0 then
    some ((([], [], (([], [], [], []), ([], [], [], []), [], [], [], []), (0 : Int), []), (1 : Int)))
  else
    (era_Unpin (((x.fst.snd.snd.snd.1, x.fst.snd.snd.snd.2), x.2))).bind fun r1 =>
    bif r1.2 != (0 : Int) then
      some ((([], [], (([], [], [], []), ([], [], [], []), [], [], [], []), (0 : Int), []), r1.2))
    else
      (arena_Turn ((x.fst.1, x.fst.snd.1, ((x.fst.snd.snd.fst.fst.1, x.fst.snd.snd.fst.fst.snd.1, x.fst.snd.snd.fst.fst.snd.snd.1, x.fst.snd.snd.fst.fst.snd.snd.2), (x.fst.snd.snd.fst.snd.fst.1, x.fst.snd.snd.fst.snd.fst.snd.1, x.fst.snd.snd.fst.snd.fst.snd.snd.1, x.fst.snd.snd.fst.snd.fst.snd.snd.2), x.fst.snd.snd.fst.snd.snd.1, x.fst.snd.snd.fst.snd.snd.snd.1, x.fst.snd.snd.fst.snd.snd.snd.snd.1, x.fst.snd.snd.fst.snd.snd.snd.snd.2), r1.fst.1, r1.fst.2))).bind fun r2 =>
      some (((r2.fst.1, r2.fst.snd.1, ((r2.fst.snd.snd.fst.fst.1, r2.fst.snd.snd.fst.fst.snd.1, r2.fst.snd.snd.fst.fst.snd.snd.1, r2.fst.snd.snd.fst.fst.snd.snd.2), (r2.fst.snd.snd.fst.snd.fst.1, r2.fst.snd.snd.fst.snd.fst.snd.1, r2.fst.snd.snd.fst.snd.fst.snd.snd.1, r2.fst.snd.snd.fst.snd.fst.snd.snd.2), r2.fst.snd.snd.fst.snd.snd.1, r2.fst.snd.snd.fst.snd.snd.snd.1, r2.fst.snd.snd.fst.snd.snd.snd.snd.1, r2.fst.snd.snd.fst.snd.snd.snd.snd.2), r2.fst.snd.snd.snd.1, r2.fst.snd.snd.snd.2), (0 : Int)))
def arena_End_S : Sig := ⟨[⟨true, (.pair (.sl .int) (.pair (.sl .int) (.pair (.pair (.pair (.sl .int) (.pair (.sl .int) (.pair (.sl .int) (.sl .int)))) (.pair (.pair (.sl .int) (.pair (.sl .int) (.pair (.sl .int) (.sl .int)))) (.pair (.sl .int) (.pair (.sl .int) (.pair (.sl .int) (.sl .int)))))) (.pair .int (.sl .int)))))⟩, ⟨false, .int⟩], [⟨true, (.pair (.sl .int) (.pair (.sl .int) (.pair (.pair (.pair (.sl .int) (.pair (.sl .int) (.pair (.sl .int) (.sl .int)))) (.pair (.pair (.sl .int) (.pair (.sl .int) (.pair (.sl .int) (.sl .int)))) (.pair (.sl .int) (.pair (.sl .int) (.pair (.sl .int) (.sl .int)))))) (.pair .int (.sl .int)))))⟩, ⟨false, .int⟩], false, arena_End⟩
/-! tendril/tendrilref06.Unpin -/
def tendrilref06_Unpin (x : (Int × List Int) × Int) : Option ((Int × List Int) × Int) :=
  (tendrilref06_Check ((x.fst.1, x.fst.2))).bind fun r0 =>
  bif r0 != (0 : Int) then
    some ((((0 : Int), []), (1 : Int)))
  else
    bif Decidable.decide (x.2 < (0 : Int)) then
      some ((((0 : Int), []), (1 : Int)))
    else
      bif Decidable.decide ((↑(List.length x.fst.2) : Int) ≤ x.2) then
        some ((((0 : Int), []), (1 : Int)))
      else
        bif Decidable.decide ((0 : Int) ≤ x.2) then
          bif Decidable.decide (x.2 < (↑(List.length x.fst.2) : Int)) then
            bif List.getD x.fst.2 (Int.toNat x.2) (0 : Int) == (-1 : Int) then
              some ((((0 : Int), []), (2 : Int)))
            else
              (tendrilref02_Copy (x.fst.2)).bind fun r1 =>
              bif Decidable.decide ((0 : Int) ≤ x.2) then
                bif Decidable.decide (x.2 < (↑(List.length r1) : Int)) then
                  some (((x.fst.1, List.set r1 (Int.toNat x.2) (-1 : Int)), (0 : Int)))
                else
                  none
              else
                none
          else
            none
        else
          none
def tendrilref06_Unpin_S : Sig := ⟨[⟨true, (.pair .int (.sl .int))⟩, ⟨false, .int⟩], [⟨true, (.pair .int (.sl .int))⟩, ⟨false, .int⟩], true, tendrilref06_Unpin⟩
/-! tendril/tendrilref07.End -/
def tendrilref07_End (x : (List Int × List Int × ((List Int × List Int × List Int × List Int) × (List Int × List Int × List Int × List Int) × List Int × List Int × List Int × List Int) × Int × List Int) × Int) : Option ((List Int × List Int × ((List Int × List Int × List Int × List Int) × (List Int × List Int × List Int × List Int) × List Int × List Int × List Int × List Int) × Int × List Int) × Int) :=
  (tendrilref07_Check ((x.fst.1, x.fst.snd.1, ((x.fst.snd.snd.fst.fst.1, x.fst.snd.snd.fst.fst.snd.1, x.fst.snd.snd.fst.fst.snd.snd.1, x.fst.snd.snd.fst.fst.snd.snd.2), (x.fst.snd.snd.fst.snd.fst.1, x.fst.snd.snd.fst.snd.fst.snd.1, x.fst.snd.snd.fst.snd.fst.snd.snd.1, x.fst.snd.snd.fst.snd.fst.snd.snd.2), x.fst.snd.snd.fst.snd.snd.1, x.fst.snd.snd.fst.snd.snd.snd.1, x.fst.snd.snd.fst.snd.snd.snd.snd.1, x.fst.snd.snd.fst.snd.snd.snd.snd.2), x.fst.snd.snd.snd.1, x.fst.snd.snd.snd.2))).bind fun r0 =>
  bif r0 != (0 : Int) then
    some ((([], [], (([], [], [], []), ([], [], [], []), [], [], [], []), (0 : Int), []), (1 : Int)))
  else
    (tendrilref06_Unpin (((x.fst.snd.snd.snd.1, x.fst.snd.snd.snd.2), x.2))).bind fun r1 =>
    bif r1.2 != (0 : Int) then
      some ((([], [], (([], [], [], []), ([], [], [], []), [], [], [], []), (0 : Int), []), r1.2))
    else
      (tendrilref07_Turn ((x.fst.1, x.fst.snd.1, ((x.fst.snd.snd.fst.fst.1, x.fst.snd.snd.fst.fst.snd.1, x.fst.snd.snd.fst.fst.snd.snd.1, x.fst.snd.snd.fst.fst.snd.snd.2), (x.fst.snd.snd.fst.snd.fst.1, x.fst.snd.snd.fst.snd.fst.snd.1, x.fst.snd.snd.fst.snd.fst.snd.snd.1, x.fst.snd.snd.fst.snd.fst.snd.snd.2), x.fst.snd.snd.fst.snd.snd.1, x.fst.snd.snd.fst.snd.snd.snd.1, x.fst.snd.snd.fst.snd.snd.snd.snd.1, x.fst.snd.snd.fst.snd.snd.snd.snd.2), r1.fst.1, r1.fst.2))).bind fun r2 =>
      some (((r2.fst.1, r2.fst.snd.1, ((r2.fst.snd.snd.fst.fst.1, r2.fst.snd.snd.fst.fst.snd.1, r2.fst.snd.snd.fst.fst.snd.snd.1, r2.fst.snd.snd.fst.fst.snd.snd.2), (r2.fst.snd.snd.fst.snd.fst.1, r2.fst.snd.snd.fst.snd.fst.snd.1, r2.fst.snd.snd.fst.snd.fst.snd.snd.1, r2.fst.snd.snd.fst.snd.fst.snd.snd.2), r2.fst.snd.snd.fst.snd.snd.1, r2.fst.snd.snd.fst.snd.snd.snd.1, r2.fst.snd.snd.fst.snd.snd.snd.snd.1, r2.fst.snd.snd.fst.snd.snd.snd.snd.2), r2.fst.snd.snd.snd.1, r2.fst.snd.snd.snd.2), (0 : Int)))
def tendrilref07_End_S : Sig := ⟨[⟨true, (.pair (.sl .int) (.pair (.sl .int) (.pair (.pair (.pair (.sl .int) (.pair (.sl .int) (.pair (.sl .int) (.sl .int)))) (.pair (.pair (.sl .int) (.pair (.sl .int) (.pair (.sl .int) (.sl .int)))) (.pair (.sl .int) (.pair (.sl .int) (.pair (.sl .int) (.sl .int)))))) (.pair .int (.sl .int)))))⟩, ⟨false, .int⟩], [⟨true, (.pair (.sl .int) (.pair (.sl .int) (.pair (.pair (.pair (.sl .int) (.pair (.sl .int) (.pair (.sl .int) (.sl .int)))) (.pair (.pair (.sl .int) (.pair (.sl .int) (.pair (.sl .int) (.sl .int)))) (.pair (.sl .int) (.pair (.sl .int) (.pair (.sl .int) (.sl .int)))))) (.pair .int (.sl .int)))))⟩, ⟨false, .int⟩], false, tendrilref07_End⟩
/-! tendril/tendrillaw07.ArenaTurns -/
def tendrillaw07_ArenaTurns (x : (List Int × List Int × ((List Int × List Int × List Int × List Int) × (List Int × List Int × List Int × List Int) × List Int × List Int × List Int × List Int) × Int × List Int) × Int) : Option (Bool) :=
  (tendrillaw07_live (())).bind fun r0 =>
  bif !r0 then
    some (Bool.false)
  else
    (tendrilref07_Few ((x.fst.1, x.fst.snd.1, ((x.fst.snd.snd.fst.fst.1, x.fst.snd.snd.fst.fst.snd.1, x.fst.snd.snd.fst.fst.snd.snd.1, x.fst.snd.snd.fst.fst.snd.snd.2), (x.fst.snd.snd.fst.snd.fst.1, x.fst.snd.snd.fst.snd.fst.snd.1, x.fst.snd.snd.fst.snd.fst.snd.snd.1, x.fst.snd.snd.fst.snd.fst.snd.snd.2), x.fst.snd.snd.fst.snd.snd.1, x.fst.snd.snd.fst.snd.snd.snd.1, x.fst.snd.snd.fst.snd.snd.snd.snd.1, x.fst.snd.snd.fst.snd.snd.snd.snd.2), x.fst.snd.snd.snd.1, x.fst.snd.snd.snd.2))).bind fun r1 =>
    bif !r1 then
      some (Bool.true)
    else
      (arena_Pin (((x.fst.1, x.fst.snd.1, ((x.fst.snd.snd.fst.fst.1, x.fst.snd.snd.fst.fst.snd.1, x.fst.snd.snd.fst.fst.snd.snd.1, x.fst.snd.snd.fst.fst.snd.snd.2), (x.fst.snd.snd.fst.snd.fst.1, x.fst.snd.snd.fst.snd.fst.snd.1, x.fst.snd.snd.fst.snd.fst.snd.snd.1, x.fst.snd.snd.fst.snd.fst.snd.snd.2), x.fst.snd.snd.fst.snd.snd.1, x.fst.snd.snd.fst.snd.snd.snd.1, x.fst.snd.snd.fst.snd.snd.snd.snd.1, x.fst.snd.snd.fst.snd.snd.snd.snd.2), x.fst.snd.snd.snd.1, x.fst.snd.snd.snd.2), x.2))).bind fun r2 =>
      (tendrilref07_Pin (((x.fst.1, x.fst.snd.1, ((x.fst.snd.snd.fst.fst.1, x.fst.snd.snd.fst.fst.snd.1, x.fst.snd.snd.fst.fst.snd.snd.1, x.fst.snd.snd.fst.fst.snd.snd.2), (x.fst.snd.snd.fst.snd.fst.1, x.fst.snd.snd.fst.snd.fst.snd.1, x.fst.snd.snd.fst.snd.fst.snd.snd.1, x.fst.snd.snd.fst.snd.fst.snd.snd.2), x.fst.snd.snd.fst.snd.snd.1, x.fst.snd.snd.fst.snd.snd.snd.1, x.fst.snd.snd.fst.snd.snd.snd.snd.1, x.fst.snd.snd.fst.snd.snd.snd.snd.2), x.fst.snd.snd.snd.1, x.fst.snd.snd.snd.2), x.2))).bind fun r3 =>
      (arena_Turn ((x.fst.1, x.fst.snd.1, ((x.fst.snd.snd.fst.fst.1, x.fst.snd.snd.fst.fst.snd.1, x.fst.snd.snd.fst.fst.snd.snd.1, x.fst.snd.snd.fst.fst.snd.snd.2), (x.fst.snd.snd.fst.snd.fst.1, x.fst.snd.snd.fst.snd.fst.snd.1, x.fst.snd.snd.fst.snd.fst.snd.snd.1, x.fst.snd.snd.fst.snd.fst.snd.snd.2), x.fst.snd.snd.fst.snd.snd.1, x.fst.snd.snd.fst.snd.snd.snd.1, x.fst.snd.snd.fst.snd.snd.snd.snd.1, x.fst.snd.snd.fst.snd.snd.snd.snd.2), x.fst.snd.snd.snd.1, x.fst.snd.snd.snd.2))).bind fun r4 =>
      (tendrilref07_Turn ((x.fst.1, x.fst.snd.1, ((x.fst.snd.snd.fst.fst.1, x.fst.snd.snd.fst.fst.snd.1, x.fst.snd.snd.fst.fst.snd.snd.1, x.fst.snd.snd.fst.fst.snd.snd.2), (x.fst.snd.snd.fst.snd.fst.1, x.fst.snd.snd.fst.snd.fst.snd.1, x.fst.snd.snd.fst.snd.fst.snd.snd.1, x.fst.snd.snd.fst.snd.fst.snd.snd.2), x.fst.snd.snd.fst.snd.snd.1, x.fst.snd.snd.fst.snd.snd.snd.1, x.fst.snd.snd.fst.snd.snd.snd.snd.1, x.fst.snd.snd.fst.snd.snd.snd.snd.2), x.fst.snd.snd.snd.1, x.fst.snd.snd.snd.2))).bind fun r5 =>
      (arena_End (((x.fst.1, x.fst.snd.1, ((x.fst.snd.snd.fst.fst.1, x.fst.snd.snd.fst.fst.snd.1, x.fst.snd.snd.fst.fst.snd.snd.1, x.fst.snd.snd.fst.fst.snd.snd.2), (x.fst.snd.snd.fst.snd.fst.1, x.fst.snd.snd.fst.snd.fst.snd.1, x.fst.snd.snd.fst.snd.fst.snd.snd.1, x.fst.snd.snd.fst.snd.fst.snd.snd.2), x.fst.snd.snd.fst.snd.snd.1, x.fst.snd.snd.fst.snd.snd.snd.1, x.fst.snd.snd.fst.snd.snd.snd.snd.1, x.fst.snd.snd.fst.snd.snd.snd.snd.2), x.fst.snd.snd.snd.1, x.fst.snd.snd.snd.2), x.2))).bind fun r6 =>
      (tendrilref07_End (((x.fst.1, x.fst.snd.1, ((x.fst.snd.snd.fst.fst.1, x.fst.snd.snd.fst.fst.snd.1, x.fst.snd.snd.fst.fst.snd.snd.1, x.fst.snd.snd.fst.fst.snd.snd.2), (x.fst.snd.snd.fst.snd.fst.1, x.fst.snd.snd.fst.snd.fst.snd.1, x.fst.snd.snd.fst.snd.fst.snd.snd.1, x.fst.snd.snd.fst.snd.fst.snd.snd.2), x.fst.snd.snd.fst.snd.snd.1, x.fst.snd.snd.fst.snd.snd.snd.1, x.fst.snd.snd.fst.snd.snd.snd.snd.1, x.fst.snd.snd.fst.snd.snd.snd.snd.2), x.fst.snd.snd.snd.1, x.fst.snd.snd.snd.2), x.2))).bind fun r7 =>
      (tendrilref07_Same (((r2.fst.1, r2.fst.snd.1, ((r2.fst.snd.snd.fst.fst.1, r2.fst.snd.snd.fst.fst.snd.1, r2.fst.snd.snd.fst.fst.snd.snd.1, r2.fst.snd.snd.fst.fst.snd.snd.2), (r2.fst.snd.snd.fst.snd.fst.1, r2.fst.snd.snd.fst.snd.fst.snd.1, r2.fst.snd.snd.fst.snd.fst.snd.snd.1, r2.fst.snd.snd.fst.snd.fst.snd.snd.2), r2.fst.snd.snd.fst.snd.snd.1, r2.fst.snd.snd.fst.snd.snd.snd.1, r2.fst.snd.snd.fst.snd.snd.snd.snd.1, r2.fst.snd.snd.fst.snd.snd.snd.snd.2), r2.fst.snd.snd.snd.1, r2.fst.snd.snd.snd.2), r3.fst.1, r3.fst.snd.1, ((r3.fst.snd.snd.fst.fst.1, r3.fst.snd.snd.fst.fst.snd.1, r3.fst.snd.snd.fst.fst.snd.snd.1, r3.fst.snd.snd.fst.fst.snd.snd.2), (r3.fst.snd.snd.fst.snd.fst.1, r3.fst.snd.snd.fst.snd.fst.snd.1, r3.fst.snd.snd.fst.snd.fst.snd.snd.1, r3.fst.snd.snd.fst.snd.fst.snd.snd.2), r3.fst.snd.snd.fst.snd.snd.1, r3.fst.snd.snd.fst.snd.snd.snd.1, r3.fst.snd.snd.fst.snd.snd.snd.snd.1, r3.fst.snd.snd.fst.snd.snd.snd.snd.2), r3.fst.snd.snd.snd.1, r3.fst.snd.snd.snd.2))).bind fun r8 =>
      bif r8 then
        bif r2.2 == r3.2 then
          (tendrilref07_Same (((r4.fst.1, r4.fst.snd.1, ((r4.fst.snd.snd.fst.fst.1, r4.fst.snd.snd.fst.fst.snd.1, r4.fst.snd.snd.fst.fst.snd.snd.1, r4.fst.snd.snd.fst.fst.snd.snd.2), (r4.fst.snd.snd.fst.snd.fst.1, r4.fst.snd.snd.fst.snd.fst.snd.1, r4.fst.snd.snd.fst.snd.fst.snd.snd.1, r4.fst.snd.snd.fst.snd.fst.snd.snd.2), r4.fst.snd.snd.fst.snd.snd.1, r4.fst.snd.snd.fst.snd.snd.snd.1, r4.fst.snd.snd.fst.snd.snd.snd.snd.1, r4.fst.snd.snd.fst.snd.snd.snd.snd.2), r4.fst.snd.snd.snd.1, r4.fst.snd.snd.snd.2), r5.fst.1, r5.fst.snd.1, ((r5.fst.snd.snd.fst.fst.1, r5.fst.snd.snd.fst.fst.snd.1, r5.fst.snd.snd.fst.fst.snd.snd.1, r5.fst.snd.snd.fst.fst.snd.snd.2), (r5.fst.snd.snd.fst.snd.fst.1, r5.fst.snd.snd.fst.snd.fst.snd.1, r5.fst.snd.snd.fst.snd.fst.snd.snd.1, r5.fst.snd.snd.fst.snd.fst.snd.snd.2), r5.fst.snd.snd.fst.snd.snd.1, r5.fst.snd.snd.fst.snd.snd.snd.1, r5.fst.snd.snd.fst.snd.snd.snd.snd.1, r5.fst.snd.snd.fst.snd.snd.snd.snd.2), r5.fst.snd.snd.snd.1, r5.fst.snd.snd.snd.2))).bind fun r9 =>
          bif r9 then
            bif r4.2 == r5.2 then
              (tendrilref07_Same (((r6.fst.1, r6.fst.snd.1, ((r6.fst.snd.snd.fst.fst.1, r6.fst.snd.snd.fst.fst.snd.1, r6.fst.snd.snd.fst.fst.snd.snd.1, r6.fst.snd.snd.fst.fst.snd.snd.2), (r6.fst.snd.snd.fst.snd.fst.1, r6.fst.snd.snd.fst.snd.fst.snd.1, r6.fst.snd.snd.fst.snd.fst.snd.snd.1, r6.fst.snd.snd.fst.snd.fst.snd.snd.2), r6.fst.snd.snd.fst.snd.snd.1, r6.fst.snd.snd.fst.snd.snd.snd.1, r6.fst.snd.snd.fst.snd.snd.snd.snd.1, r6.fst.snd.snd.fst.snd.snd.snd.snd.2), r6.fst.snd.snd.snd.1, r6.fst.snd.snd.snd.2), r7.fst.1, r7.fst.snd.1, ((r7.fst.snd.snd.fst.fst.1, r7.fst.snd.snd.fst.fst.snd.1, r7.fst.snd.snd.fst.fst.snd.snd.1, r7.fst.snd.snd.fst.fst.snd.snd.2), (r7.fst.snd.snd.fst.snd.fst.1, r7.fst.snd.snd.fst.snd.fst.snd.1, r7.fst.snd.snd.fst.snd.fst.snd.snd.1, r7.fst.snd.snd.fst.snd.fst.snd.snd.2), r7.fst.snd.snd.fst.snd.snd.1, r7.fst.snd.snd.fst.snd.snd.snd.1, r7.fst.snd.snd.fst.snd.snd.snd.snd.1, r7.fst.snd.snd.fst.snd.snd.snd.snd.2), r7.fst.snd.snd.snd.1, r7.fst.snd.snd.snd.2))).bind fun r10 =>
              bif r10 then
                some (r6.2 == r7.2)
              else
                some (Bool.false)
            else
              some (Bool.false)
          else
            some (Bool.false)
        else
          some (Bool.false)
      else
        some (Bool.false)
def tendrillaw07_ArenaTurns_S : Sig := ⟨[⟨true, (.pair (.sl .int) (.pair (.sl .int) (.pair (.pair (.pair (.sl .int) (.pair (.sl .int) (.pair (.sl .int) (.sl .int)))) (.pair (.pair (.sl .int) (.pair (.sl .int) (.pair (.sl .int) (.sl .int)))) (.pair (.sl .int) (.pair (.sl .int) (.pair (.sl .int) (.sl .int)))))) (.pair .int (.sl .int)))))⟩, ⟨false, .int⟩], [⟨false, .bool⟩], false, tendrillaw07_ArenaTurns⟩
end Go.Proofs.YtcoiboghdmmdcacFn
