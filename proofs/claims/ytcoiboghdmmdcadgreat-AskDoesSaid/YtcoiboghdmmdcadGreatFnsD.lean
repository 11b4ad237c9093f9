/- What the functions that this seat's laws reach compute, as plain functions, the last of them; no condition. -/
import Derived.Test.YtcoiboghdmmdcadGreatProg
import Derived.KernelRfl
import Derived.Test.YtcoiboghdmmdcadGreatPx25
import Derived.Test.YtcoiboghdmmdcadGreatFnsDa
set_option linter.unusedVariables false
set_option linter.unusedSimpArgs false
namespace Go.Proofs.YtcoiboghdmmdcadGreatFn
open Go Go.RowKit Go.Proofs.YtcoiboghdmmdcadGreatPx
/-! tendril/tendrilref05.Few -/
def tendrilref05_Few (x : List Int × List Int × List Int × List Int) : Option (Bool) :=
  bif Decidable.decide ((↑(List.length x.1) : Int) ≤ (200 : Int)) then
    bif Decidable.decide ((↑(List.length x.snd.1) : Int) ≤ (200 : Int)) then
      bif Decidable.decide ((↑(List.length x.snd.snd.1) : Int) ≤ (200 : Int)) then
        some (Decidable.decide ((↑(List.length x.snd.snd.2) : Int) ≤ (200 : Int)))
      else
        some (Bool.false)
    else
      some (Bool.false)
  else
    some (Bool.false)
def tendrilref05_Few_S : Sig := ⟨[⟨true, (.pair (.sl .int) (.pair (.sl .int) (.pair (.sl .int) (.sl .int))))⟩], [⟨false, .bool⟩], false, tendrilref05_Few⟩
/-! tendril/tendrilref07.Few -/
def tendrilref07_Few_L6 : Nat → (List Int) → (List Int) → (List Int) → (List Int) → (List Int) → (List Int) → (List Int) → (List Int) → (List Int) → (List Int) → (List Int) → (List Int) → (Int) → (List Int) → (List Int) → (List Int) → (List Int) → (List Int) → (List Int) → (List Int) → (List Int) → (List Int) → (List Int) → (List Int) → (List Int) → (List Int) → (List Int) → (Int) → (List Int) → Option (Bool)
  | 0, _, _, _, _, _, _, _, _, _, _, _, _, _, _, _, _, _, _, _, _, _, _, _, _, _, _, _, _, _ => none
  | k + 1, p0, p1, p2, p3, p4, p5, p6, p7, p8, p9, p10, p11, p12, p13, p14, p15, p16, p17, p18, p19, p20, p21, p22, p23, p24, p25, p26, p27, p28 =>
    bif Decidable.decide (p12 < (3 : Int)) then
      bif Decidable.decide (p12 = (↑(nat_lit 2) : Int)) then
        (tendrilref05_Few ((p8, p9, p10, p11))).bind fun r0 =>
        bif !r0 then
          some (Bool.false)
        else
          tendrilref07_Few_L6 k (p0) (p1) (p2) (p3) (p4) (p5) (p6) (p7) (p8) (p9) (p10) (p11) (Go.RowKit.wrap64 (p12 + (1 : Int))) (p13) (p14) (p15) (p16) (p17) (p18) (p19) (p20) (p21) (p22) (p23) (p24) (p25) (p26) (p27) (p28)
      else
        bif Decidable.decide (p12 = (↑(nat_lit 1) : Int)) then
          (tendrilref05_Few ((p4, p5, p6, p7))).bind fun r1 =>
          bif !r1 then
            some (Bool.false)
          else
            tendrilref07_Few_L6 k (p0) (p1) (p2) (p3) (p4) (p5) (p6) (p7) (p8) (p9) (p10) (p11) (Go.RowKit.wrap64 (p12 + (1 : Int))) (p13) (p14) (p15) (p16) (p17) (p18) (p19) (p20) (p21) (p22) (p23) (p24) (p25) (p26) (p27) (p28)
        else
          bif Decidable.decide (p12 = (↑(nat_lit 0) : Int)) then
            (tendrilref05_Few ((p0, p1, p2, p3))).bind fun r2 =>
            bif !r2 then
              some (Bool.false)
            else
              tendrilref07_Few_L6 k (p0) (p1) (p2) (p3) (p4) (p5) (p6) (p7) (p8) (p9) (p10) (p11) (Go.RowKit.wrap64 (p12 + (1 : Int))) (p13) (p14) (p15) (p16) (p17) (p18) (p19) (p20) (p21) (p22) (p23) (p24) (p25) (p26) (p27) (p28)
          else
            none
    else
      bif Decidable.decide ((↑p28.length : Int) ≤ (200 : Int)) then
        bif Decidable.decide ((↑p13.length : Int) ≤ (2000 : Int)) then
          some (Decidable.decide ((↑p14.length : Int) ≤ (200 : Int)))
        else
          some (Bool.false)
      else
        some (Bool.false)
def tendrilref07_Few_K (K : Nat) (x : List Int × List Int × ((List Int × List Int × List Int × List Int) × (List Int × List Int × List Int × List Int) × List Int × List Int × List Int × List Int) × Int × List Int) : Option (Bool) :=
  tendrilref07_Few_L6 K (x.snd.snd.fst.fst.1) (x.snd.snd.fst.fst.snd.1) (x.snd.snd.fst.fst.snd.snd.1) (x.snd.snd.fst.fst.snd.snd.2) (x.snd.snd.fst.snd.fst.1) (x.snd.snd.fst.snd.fst.snd.1) (x.snd.snd.fst.snd.fst.snd.snd.1) (x.snd.snd.fst.snd.fst.snd.snd.2) (x.snd.snd.fst.snd.snd.1) (x.snd.snd.fst.snd.snd.snd.1) (x.snd.snd.fst.snd.snd.snd.snd.1) (x.snd.snd.fst.snd.snd.snd.snd.2) ((0 : Int)) (x.1) (x.snd.1) (x.snd.snd.fst.fst.1) (x.snd.snd.fst.fst.snd.1) (x.snd.snd.fst.fst.snd.snd.1) (x.snd.snd.fst.fst.snd.snd.2) (x.snd.snd.fst.snd.fst.1) (x.snd.snd.fst.snd.fst.snd.1) (x.snd.snd.fst.snd.fst.snd.snd.1) (x.snd.snd.fst.snd.fst.snd.snd.2) (x.snd.snd.fst.snd.snd.1) (x.snd.snd.fst.snd.snd.snd.1) (x.snd.snd.fst.snd.snd.snd.snd.1) (x.snd.snd.fst.snd.snd.snd.snd.2) (x.snd.snd.snd.1) (x.snd.snd.snd.2)
def tendrilref07_Few (x : ((List Int) × ((List Int) × ((((List Int) × ((List Int) × ((List Int) × (List Int)))) × (((List Int) × ((List Int) × ((List Int) × (List Int)))) × ((List Int) × ((List Int) × ((List Int) × (List Int)))))) × (Int × (List Int)))))) : Option (Bool) := tendrilref07_Few_K 2000000 x
def tendrilref07_Few_S : Sig := ⟨[⟨true, (.pair (.sl .int) (.pair (.sl .int) (.pair (.pair (.pair (.sl .int) (.pair (.sl .int) (.pair (.sl .int) (.sl .int)))) (.pair (.pair (.sl .int) (.pair (.sl .int) (.pair (.sl .int) (.sl .int)))) (.pair (.sl .int) (.pair (.sl .int) (.pair (.sl .int) (.sl .int)))))) (.pair .int (.sl .int)))))⟩], [⟨false, .bool⟩], false, tendrilref07_Few⟩
/-! tendril/tendrilref02.Copy -/
def tendrilref02_Copy (x : List Int) : Option (List Int) :=
  bif Decidable.decide ((0 : Nat) + List.length x ≤ (1000000 : Nat)) then
    some (x)
  else
    none
def tendrilref02_Copy_S : Sig := ⟨[⟨false, (.sl .int)⟩], [⟨false, (.sl .int)⟩], true, tendrilref02_Copy⟩
/-! tendril/tendrilref03.Check -/
def tendrilref03_Check_L6 : Nat → (Int) → (Int) → (List Int) → Option (Int)
  | 0, _, _, _ => none
  | k + 1, p0, p1, p2 =>
    bif Decidable.decide (p1 < p0) then
      bif Decidable.decide ((0 : Int) ≤ p1) then
        bif Decidable.decide (p1 < (↑p2.length : Int)) then
          bif Decidable.decide (p2.getD p1.toNat (0 : Int) < (1 : Int)) then
            some ((1 : Int))
          else
            bif Decidable.decide ((64 : Int) < p2.getD p1.toNat (0 : Int)) then
              some ((1 : Int))
            else
              tendrilref03_Check_L6 k (p0) (Go.RowKit.wrap64 (p1 + (1 : Int))) (p2)
        else
          none
      else
        none
    else
      some ((0 : Int))
def tendrilref03_Check_K (K : Nat) (x : Int × Int × Int × Int × Int) : Option (Int) :=
  tendrilref03_Check_L6 K ((↑([x.1, x.snd.1, x.snd.snd.1, x.snd.snd.snd.1, x.snd.snd.snd.2]).length : Int)) ((0 : Int)) ([x.1, x.snd.1, x.snd.snd.1, x.snd.snd.snd.1, x.snd.snd.snd.2])
def tendrilref03_Check (x : (Int × (Int × (Int × (Int × Int))))) : Option (Int) := tendrilref03_Check_K 2000000 x
def tendrilref03_Check_S : Sig := ⟨[⟨true, (.pair .int (.pair .int (.pair .int (.pair .int .int))))⟩], [⟨false, .int⟩], false, tendrilref03_Check⟩
/-! tendril/tendrilref05.Check -/
mutual
def tendrilref05_Check_L14 : Nat → (Int) → (Int) → (Int) → (List Int) → (List Int) → (List Int) → (List Int) → Option (Int)
  | 0, _, _, _, _, _, _, _ => none
  | k + 1, p0, p1, p2, p3, p4, p5, p6 =>
    bif Decidable.decide (p2 < p1) then
      bif Decidable.decide ((0 : Int) ≤ p2) then
        bif Decidable.decide (p2 < (↑p3.length : Int)) then
          bif Decidable.decide (p3.getD p2.toNat (0 : Int) < (0 : Int)) then
            some ((1 : Int))
          else
            bif Decidable.decide ((0 : Int) ≤ p2) then
              bif Decidable.decide (p2 < (↑p3.length : Int)) then
                bif Decidable.decide ((1099511627776 : Int) ≤ p3.getD p2.toNat (0 : Int)) then
                  some ((1 : Int))
                else
                  bif Decidable.decide ((0 : Int) ≤ p2) then
                    bif Decidable.decide (p2 < (↑p4.length : Int)) then
                      bif Decidable.decide (p4.getD p2.toNat (0 : Int) < (0 : Int)) then
                        some ((1 : Int))
                      else
                        bif Decidable.decide ((0 : Int) ≤ p2) then
                          bif Decidable.decide (p2 < (↑p4.length : Int)) then
                            bif Decidable.decide ((2 : Int) < p4.getD p2.toNat (0 : Int)) then
                              some ((1 : Int))
                            else
                              bif Decidable.decide ((0 : Int) ≤ p2) then
                                bif Decidable.decide (p2 < (↑p4.length : Int)) then
                                  bif p4.getD p2.toNat (0 : Int) != (2 : Int) then
                                    bif Decidable.decide ((0 : Int) ≤ p2) then
                                      bif Decidable.decide (p2 < (↑p5.length : Int)) then
                                        bif p5.getD p2.toNat (0 : Int) != (0 : Int) then
                                          some ((1 : Int))
                                        else
                                          tendrilref05_Check_L26 k (p0) (p2) ((0 : Int)) (p1) (p2) (p6) ((↑p6.length : Int)) ((0 : Int)) (p3) (p4) (p5) (p6)
                                      else
                                        none
                                    else
                                      none
                                  else
                                    tendrilref05_Check_L26 k (p0) (p2) ((0 : Int)) (p1) (p2) (p6) ((↑p6.length : Int)) ((0 : Int)) (p3) (p4) (p5) (p6)
                                else
                                  none
                              else
                                none
                          else
                            none
                        else
                          none
                    else
                      none
                  else
                    none
              else
                none
            else
              none
        else
          none
      else
        none
    else
      bif p0 != (↑p6.length : Int) then
        some ((1 : Int))
      else
        some ((0 : Int))
def tendrilref05_Check_L26 : Nat → (Int) → (Int) → (Int) → (Int) → (Int) → (List Int) → (Int) → (Int) → (List Int) → (List Int) → (List Int) → (List Int) → Option (Int)
  | 0, _, _, _, _, _, _, _, _, _, _, _, _ => none
  | k + 1, p0, p1, p2, p3, p4, p5, p6, p7, p8, p9, p10, p11 =>
    bif Decidable.decide (p7 < p6) then
      bif Decidable.decide ((0 : Int) ≤ p7) then
        bif Decidable.decide (p7 < (↑p5.length : Int)) then
          bif p5.getD p7.toNat (0 : Int) == p1 then
            tendrilref05_Check_L26 k (p0) (p1) (Go.RowKit.wrap64 (p2 + (1 : Int))) (p3) (p4) (p5) (p6) (Go.RowKit.wrap64 (p7 + (1 : Int))) (p8) (p9) (p10) (p11)
          else
            tendrilref05_Check_L26 k (p0) (p1) (p2) (p3) (p4) (p5) (p6) (Go.RowKit.wrap64 (p7 + (1 : Int))) (p8) (p9) (p10) (p11)
        else
          none
      else
        none
    else
      bif Decidable.decide ((1 : Int) < p2) then
        some ((1 : Int))
      else
        bif Decidable.decide ((0 : Int) ≤ p1) then
          bif Decidable.decide (p1 < (↑p9.length : Int)) then
            bif !(p2 == (1 : Int)) == (p9.getD p1.toNat (0 : Int) == (0 : Int)) then
              some ((1 : Int))
            else
              tendrilref05_Check_L14 k (Go.RowKit.wrap64 (p0 + p2)) (p3) (Go.RowKit.wrap64 (p4 + (1 : Int))) (p8) (p9) (p10) (p11)
          else
            none
        else
          none
end
def tendrilref05_Check_K (K : Nat) (x : List Int × List Int × List Int × List Int) : Option (Int) :=
  bif Decidable.decide ((↑(List.length x.1) : Int) < (1 : Int)) then
    some ((1 : Int))
  else
    bif Decidable.decide ((64 : Int) < (↑(List.length x.1) : Int)) then
      some ((1 : Int))
    else
      bif (↑(List.length x.snd.1) : Int) != (↑(List.length x.1) : Int) then
        some ((1 : Int))
      else
        bif (↑(List.length x.snd.snd.1) : Int) != (↑(List.length x.1) : Int) then
          some ((1 : Int))
        else
          tendrilref05_Check_L14 K ((0 : Int)) ((↑(List.length x.1) : Int)) ((0 : Int)) (x.1) (x.snd.1) (x.snd.snd.1) (x.snd.snd.2)
def tendrilref05_Check (x : ((List Int) × ((List Int) × ((List Int) × (List Int))))) : Option (Int) := tendrilref05_Check_K 2000000 x
def tendrilref05_Check_S : Sig := ⟨[⟨true, (.pair (.sl .int) (.pair (.sl .int) (.pair (.sl .int) (.sl .int))))⟩], [⟨false, .int⟩], false, tendrilref05_Check⟩
/-! tendril/tendrilref06.Check -/
def tendrilref06_Check_L10 : Nat → (List Int) → (Int) → (Int) → (Int) → (List Int) → Option (Int)
  | 0, _, _, _, _, _ => none
  | k + 1, p0, p1, p2, p3, p4 =>
    bif Decidable.decide (p2 < p1) then
      bif Decidable.decide ((0 : Int) ≤ p2) then
        bif Decidable.decide (p2 < (↑p0.length : Int)) then
          bif p0.getD p2.toNat (0 : Int) != (-1 : Int) then
            bif p0.getD p2.toNat (0 : Int) != p3 then
              bif p0.getD p2.toNat (0 : Int) != Go.RowKit.wrap64 (p3 - (1 : Int)) then
                some ((1 : Int))
              else
                bif Decidable.decide (p0.getD p2.toNat (0 : Int) < (0 : Int)) then
                  some ((1 : Int))
                else
                  tendrilref06_Check_L10 k (p0) (p1) (Go.RowKit.wrap64 (p2 + (1 : Int))) (p3) (p4)
            else
              tendrilref06_Check_L10 k (p0) (p1) (Go.RowKit.wrap64 (p2 + (1 : Int))) (p3) (p4)
          else
            tendrilref06_Check_L10 k (p0) (p1) (Go.RowKit.wrap64 (p2 + (1 : Int))) (p3) (p4)
        else
          none
      else
        none
    else
      some ((0 : Int))
def tendrilref06_Check_K (K : Nat) (x : Int × List Int) : Option (Int) :=
  bif Decidable.decide (x.1 < (0 : Int)) then
    some ((1 : Int))
  else
    bif Decidable.decide ((1152921504606846976 : Int) < x.1) then
      some ((1 : Int))
    else
      bif Decidable.decide ((↑(List.length x.2) : Int) < (1 : Int)) then
        some ((1 : Int))
      else
        bif Decidable.decide ((64 : Int) < (↑(List.length x.2) : Int)) then
          some ((1 : Int))
        else
          tendrilref06_Check_L10 K (x.2) ((↑(List.length x.2) : Int)) ((0 : Int)) (x.1) (x.2)
def tendrilref06_Check (x : (Int × (List Int))) : Option (Int) := tendrilref06_Check_K 2000000 x
def tendrilref06_Check_S : Sig := ⟨[⟨true, (.pair .int (.sl .int))⟩], [⟨false, .int⟩], false, tendrilref06_Check⟩
/-! tendril/tendrilref07.Check -/
def tendrilref07_Check_L6 : Nat → (List Int) → (List Int) → (List Int) → (List Int) → (List Int) → (List Int) → (List Int) → (List Int) → (List Int) → (List Int) → (List Int) → (List Int) → (Int) → (List Int) → (List Int) → (List Int) → (List Int) → (List Int) → (List Int) → (List Int) → (List Int) → (List Int) → (List Int) → (List Int) → (List Int) → (List Int) → (List Int) → (Int) → (List Int) → Option (Int)
  | 0, _, _, _, _, _, _, _, _, _, _, _, _, _, _, _, _, _, _, _, _, _, _, _, _, _, _, _, _, _ => none
  | k + 1, p0, p1, p2, p3, p4, p5, p6, p7, p8, p9, p10, p11, p12, p13, p14, p15, p16, p17, p18, p19, p20, p21, p22, p23, p24, p25, p26, p27, p28 =>
    bif Decidable.decide (p12 < (3 : Int)) then
      bif Decidable.decide (p12 = (↑(nat_lit 2) : Int)) then
        (tendrilref05_Check ((p8, p9, p10, p11))).bind fun r0 =>
        bif r0 != (0 : Int) then
          some ((1 : Int))
        else
          tendrilref07_Check_L6 k (p0) (p1) (p2) (p3) (p4) (p5) (p6) (p7) (p8) (p9) (p10) (p11) (Go.RowKit.wrap64 (p12 + (1 : Int))) (p13) (p14) (p15) (p16) (p17) (p18) (p19) (p20) (p21) (p22) (p23) (p24) (p25) (p26) (p27) (p28)
      else
        bif Decidable.decide (p12 = (↑(nat_lit 1) : Int)) then
          (tendrilref05_Check ((p4, p5, p6, p7))).bind fun r1 =>
          bif r1 != (0 : Int) then
            some ((1 : Int))
          else
            tendrilref07_Check_L6 k (p0) (p1) (p2) (p3) (p4) (p5) (p6) (p7) (p8) (p9) (p10) (p11) (Go.RowKit.wrap64 (p12 + (1 : Int))) (p13) (p14) (p15) (p16) (p17) (p18) (p19) (p20) (p21) (p22) (p23) (p24) (p25) (p26) (p27) (p28)
        else
          bif Decidable.decide (p12 = (↑(nat_lit 0) : Int)) then
            (tendrilref05_Check ((p0, p1, p2, p3))).bind fun r2 =>
            bif r2 != (0 : Int) then
              some ((1 : Int))
            else
              tendrilref07_Check_L6 k (p0) (p1) (p2) (p3) (p4) (p5) (p6) (p7) (p8) (p9) (p10) (p11) (Go.RowKit.wrap64 (p12 + (1 : Int))) (p13) (p14) (p15) (p16) (p17) (p18) (p19) (p20) (p21) (p22) (p23) (p24) (p25) (p26) (p27) (p28)
          else
            none
    else
      (tendrilref06_Check ((p27, p28))).bind fun r3 =>
      some (r3)
def tendrilref07_Check_K (K : Nat) (x : List Int × List Int × ((List Int × List Int × List Int × List Int) × (List Int × List Int × List Int × List Int) × List Int × List Int × List Int × List Int) × Int × List Int) : Option (Int) :=
  tendrilref07_Check_L6 K (x.snd.snd.fst.fst.1) (x.snd.snd.fst.fst.snd.1) (x.snd.snd.fst.fst.snd.snd.1) (x.snd.snd.fst.fst.snd.snd.2) (x.snd.snd.fst.snd.fst.1) (x.snd.snd.fst.snd.fst.snd.1) (x.snd.snd.fst.snd.fst.snd.snd.1) (x.snd.snd.fst.snd.fst.snd.snd.2) (x.snd.snd.fst.snd.snd.1) (x.snd.snd.fst.snd.snd.snd.1) (x.snd.snd.fst.snd.snd.snd.snd.1) (x.snd.snd.fst.snd.snd.snd.snd.2) ((0 : Int)) (x.1) (x.snd.1) (x.snd.snd.fst.fst.1) (x.snd.snd.fst.fst.snd.1) (x.snd.snd.fst.fst.snd.snd.1) (x.snd.snd.fst.fst.snd.snd.2) (x.snd.snd.fst.snd.fst.1) (x.snd.snd.fst.snd.fst.snd.1) (x.snd.snd.fst.snd.fst.snd.snd.1) (x.snd.snd.fst.snd.fst.snd.snd.2) (x.snd.snd.fst.snd.snd.1) (x.snd.snd.fst.snd.snd.snd.1) (x.snd.snd.fst.snd.snd.snd.snd.1) (x.snd.snd.fst.snd.snd.snd.snd.2) (x.snd.snd.snd.1) (x.snd.snd.snd.2)
def tendrilref07_Check (x : ((List Int) × ((List Int) × ((((List Int) × ((List Int) × ((List Int) × (List Int)))) × (((List Int) × ((List Int) × ((List Int) × (List Int)))) × ((List Int) × ((List Int) × ((List Int) × (List Int)))))) × (Int × (List Int)))))) : Option (Int) := tendrilref07_Check_K 2000000 x
def tendrilref07_Check_S : Sig := ⟨[⟨true, (.pair (.sl .int) (.pair (.sl .int) (.pair (.pair (.pair (.sl .int) (.pair (.sl .int) (.pair (.sl .int) (.sl .int)))) (.pair (.pair (.sl .int) (.pair (.sl .int) (.pair (.sl .int) (.sl .int)))) (.pair (.sl .int) (.pair (.sl .int) (.pair (.sl .int) (.sl .int)))))) (.pair .int (.sl .int)))))⟩], [⟨false, .int⟩], false, tendrilref07_Check⟩
/-! tendril/tendrilref03.Size -/
def tendrilref03_Size (x : Int × Int × Int × Int × Int) : Option (Int) :=
  (tendrilref03_Check ((x.1, x.snd.1, x.snd.snd.1, x.snd.snd.snd.1, x.snd.snd.snd.2))).bind fun r0 =>
  bif r0 != (0 : Int) then
    some ((0 : Int))
  else
    some (Go.RowKit.wrap64 (Go.RowKit.wrap64 (Go.RowKit.wrap64 (Go.RowKit.wrap64 (Go.RowKit.wrap64 ((2 : Int) + x.snd.snd.snd.1) + x.snd.snd.snd.2) + Go.RowKit.wrap64 ((4 : Int) * x.1)) + Go.RowKit.wrap64 ((5 : Int) * x.snd.1)) + Go.RowKit.wrap64 ((3 : Int) * x.snd.snd.1)))
def tendrilref03_Size_S : Sig := ⟨[⟨true, (.pair .int (.pair .int (.pair .int (.pair .int .int))))⟩], [⟨false, .int⟩], false, tendrilref03_Size⟩
/-! tendril/tendrilref03.Cap -/
def tendrilref03_Cap (x : (Int × Int × Int × Int × Int) × Int) : Option (Int × Int) :=
  bif x.2 == (1 : Int) then
    some ((x.fst.1, (4 : Int)))
  else
    bif x.2 == (2 : Int) then
      some ((x.fst.snd.1, (5 : Int)))
    else
      bif x.2 == (3 : Int) then
        some ((x.fst.snd.snd.1, (3 : Int)))
      else
        some (((0 : Int), (0 : Int)))
def tendrilref03_Cap_S : Sig := ⟨[⟨true, (.pair .int (.pair .int (.pair .int (.pair .int .int))))⟩, ⟨false, .int⟩], [⟨false, .int⟩, ⟨false, .int⟩], false, tendrilref03_Cap⟩
/-! tendril/tendrilref15.Check -/
mutual
def tendrilref15_Check_L10 : Nat → (Int) → (Int) → (Int) → (Int) → (Int) → (Int) → (List Int) → (List Int) → (List Int) → (List Int) → (List Int) → (List Int) → (List Int) → (List Int) → (List Int) → (List Int) → (List Int) → (List Int) → (List Int) → (List Int) → (Int) → (List Int) → Option (Int)
  | 0, _, _, _, _, _, _, _, _, _, _, _, _, _, _, _, _, _, _, _, _, _, _ => none
  | k + 1, p0, p1, p2, p3, p4, p5, p6, p7, p8, p9, p10, p11, p12, p13, p14, p15, p16, p17, p18, p19, p20, p21 =>
    bif Decidable.decide (p0 < (3 : Int)) then
      (tendrilref03_Cap (((p1, p2, p3, p4, p5), Go.RowKit.wrap64 (p0 + (1 : Int))))).bind fun r3 =>
      bif Decidable.decide (p0 = (↑(nat_lit 2) : Int)) then
        bif (↑p16.length : Int) != r3.1 then
          some ((1 : Int))
        else
          tendrilref15_Check_L10 k (Go.RowKit.wrap64 (p0 + (1 : Int))) (p1) (p2) (p3) (p4) (p5) (p6) (p7) (p8) (p9) (p10) (p11) (p12) (p13) (p14) (p15) (p16) (p17) (p18) (p19) (p20) (p21)
      else
        bif Decidable.decide (p0 = (↑(nat_lit 1) : Int)) then
          bif (↑p12.length : Int) != r3.1 then
            some ((1 : Int))
          else
            tendrilref15_Check_L10 k (Go.RowKit.wrap64 (p0 + (1 : Int))) (p1) (p2) (p3) (p4) (p5) (p6) (p7) (p8) (p9) (p10) (p11) (p12) (p13) (p14) (p15) (p16) (p17) (p18) (p19) (p20) (p21)
        else
          bif Decidable.decide (p0 = (↑(nat_lit 0) : Int)) then
            bif (↑p8.length : Int) != r3.1 then
              some ((1 : Int))
            else
              tendrilref15_Check_L10 k (Go.RowKit.wrap64 (p0 + (1 : Int))) (p1) (p2) (p3) (p4) (p5) (p6) (p7) (p8) (p9) (p10) (p11) (p12) (p13) (p14) (p15) (p16) (p17) (p18) (p19) (p20) (p21)
          else
            none
    else
      tendrilref15_Check_L24 k (p7) ((↑p7.length : Int)) ((0 : Int))
def tendrilref15_Check_L24 : Nat → (List Int) → (Int) → (Int) → Option (Int)
  | 0, _, _, _ => none
  | k + 1, p0, p1, p2 =>
    bif Decidable.decide (p2 < p1) then
      bif Decidable.decide ((0 : Int) ≤ p2) then
        bif Decidable.decide (p2 < (↑p0.length : Int)) then
          bif Decidable.decide (p0.getD p2.toNat (0 : Int) < (0 : Int)) then
            some ((1 : Int))
          else
            bif Decidable.decide ((4611686018427387904 : Int) < p0.getD p2.toNat (0 : Int)) then
              some ((1 : Int))
            else
              tendrilref15_Check_L24 k (p0) (p1) (Go.RowKit.wrap64 (p2 + (1 : Int)))
        else
          none
      else
        none
    else
      some ((0 : Int))
end
def tendrilref15_Check_K (K : Nat) (x : (Int × Int × Int × Int × Int) × List Int × List Int × ((List Int × List Int × List Int × List Int) × (List Int × List Int × List Int × List Int) × List Int × List Int × List Int × List Int) × Int × List Int) : Option (Int) :=
  (tendrilref03_Check ((x.fst.1, x.fst.snd.1, x.fst.snd.snd.1, x.fst.snd.snd.snd.1, x.fst.snd.snd.snd.2))).bind fun r0 =>
  bif r0 != (0 : Int) then
    some ((1 : Int))
  else
    (tendrilref07_Check ((x.snd.1, x.snd.snd.1, ((x.snd.snd.snd.fst.fst.1, x.snd.snd.snd.fst.fst.snd.1, x.snd.snd.snd.fst.fst.snd.snd.1, x.snd.snd.snd.fst.fst.snd.snd.2), (x.snd.snd.snd.fst.snd.fst.1, x.snd.snd.snd.fst.snd.fst.snd.1, x.snd.snd.snd.fst.snd.fst.snd.snd.1, x.snd.snd.snd.fst.snd.fst.snd.snd.2), x.snd.snd.snd.fst.snd.snd.1, x.snd.snd.snd.fst.snd.snd.snd.1, x.snd.snd.snd.fst.snd.snd.snd.snd.1, x.snd.snd.snd.fst.snd.snd.snd.snd.2), x.snd.snd.snd.snd.1, x.snd.snd.snd.snd.2))).bind fun r1 =>
    bif r1 != (0 : Int) then
      some ((1 : Int))
    else
      (tendrilref03_Size ((x.fst.1, x.fst.snd.1, x.fst.snd.snd.1, x.fst.snd.snd.snd.1, x.fst.snd.snd.snd.2))).bind fun r2 =>
      bif (↑(List.length x.snd.1) : Int) != r2 then
        some ((1 : Int))
      else
        bif (↑(List.length x.snd.snd.1) : Int) != Go.RowKit.wrap64 (x.fst.snd.snd.snd.1 + (1 : Int)) then
          some ((1 : Int))
        else
          tendrilref15_Check_L10 K ((0 : Int)) (x.fst.1) (x.fst.snd.1) (x.fst.snd.snd.1) (x.fst.snd.snd.snd.1) (x.fst.snd.snd.snd.2) (x.snd.1) (x.snd.snd.1) (x.snd.snd.snd.fst.fst.1) (x.snd.snd.snd.fst.fst.snd.1) (x.snd.snd.snd.fst.fst.snd.snd.1) (x.snd.snd.snd.fst.fst.snd.snd.2) (x.snd.snd.snd.fst.snd.fst.1) (x.snd.snd.snd.fst.snd.fst.snd.1) (x.snd.snd.snd.fst.snd.fst.snd.snd.1) (x.snd.snd.snd.fst.snd.fst.snd.snd.2) (x.snd.snd.snd.fst.snd.snd.1) (x.snd.snd.snd.fst.snd.snd.snd.1) (x.snd.snd.snd.fst.snd.snd.snd.snd.1) (x.snd.snd.snd.fst.snd.snd.snd.snd.2) (x.snd.snd.snd.snd.1) (x.snd.snd.snd.snd.2)
def tendrilref15_Check (x : (Int × (Int × (Int × (Int × Int)))) × ((List Int) × ((List Int) × ((((List Int) × ((List Int) × ((List Int) × (List Int)))) × (((List Int) × ((List Int) × ((List Int) × (List Int)))) × ((List Int) × ((List Int) × ((List Int) × (List Int)))))) × (Int × (List Int)))))) : Option (Int) := tendrilref15_Check_K 2000000 x
def tendrilref15_Check_S : Sig := ⟨[⟨true, (.pair .int (.pair .int (.pair .int (.pair .int .int))))⟩, ⟨true, (.pair (.sl .int) (.pair (.sl .int) (.pair (.pair (.pair (.sl .int) (.pair (.sl .int) (.pair (.sl .int) (.sl .int)))) (.pair (.pair (.sl .int) (.pair (.sl .int) (.pair (.sl .int) (.sl .int)))) (.pair (.sl .int) (.pair (.sl .int) (.pair (.sl .int) (.sl .int)))))) (.pair .int (.sl .int)))))⟩], [⟨false, .int⟩], false, tendrilref15_Check⟩
/-! tendril/tendrilref08.Check -/
def tendrilref08_Check (x : Int) : Option (Int) :=
  bif Decidable.decide (x < (0 : Int)) then
    some ((1 : Int))
  else
    bif Decidable.decide ((4611686018427387904 : Int) < x) then
      some ((1 : Int))
    else
      some ((0 : Int))
def tendrilref08_Check_S : Sig := ⟨[⟨false, .int⟩], [⟨false, .int⟩], false, tendrilref08_Check⟩
/-! tendril/tendrilref08.Held -/
def tendrilref08_Held (x : Int) : Option (Bool) :=
  (tendrilref08_Check (x)).bind fun r0 =>
  bif r0 == (0 : Int) then
    some (Int.tmod x (2 : Int) == (1 : Int))
  else
    some (Bool.false)
def tendrilref08_Held_S : Sig := ⟨[⟨false, .int⟩], [⟨false, .bool⟩], false, tendrilref08_Held⟩
/-! tendril/tendrilref16.Waits -/
def tendrilref16_Waits (x : (List Int × List Int × ((List Int × List Int × List Int × List Int) × (List Int × List Int × List Int × List Int) × List Int × List Int × List Int × List Int) × Int × List Int) × Int × Int × Int × Int × Int × Int) : Option (Bool) :=
  bif x.snd.1 == (5 : Int) then
    bif Decidable.decide ((0 : Int) ≤ x.snd.snd.1) then
      bif Decidable.decide (x.snd.snd.1 < (↑(List.length x.fst.snd.1) : Int)) then
        bif Decidable.decide ((0 : Int) ≤ x.snd.snd.1) then
          bif Decidable.decide (x.snd.snd.1 < (↑(List.length x.fst.snd.1) : Int)) then
            (tendrilref08_Held (List.getD x.fst.snd.1 (Int.toNat x.snd.snd.1) (0 : Int))).bind fun r0 =>
            some (r0)
          else
            none
        else
          none
      else
        some (Bool.false)
    else
      some (Bool.false)
  else
    bif x.snd.1 == (7 : Int) then
      bif Decidable.decide ((0 : Int) ≤ x.snd.snd.1) then
        bif Decidable.decide (x.snd.snd.1 < (↑(List.length x.fst.snd.1) : Int)) then
          bif Decidable.decide ((0 : Int) ≤ x.snd.snd.1) then
            bif Decidable.decide (x.snd.snd.1 < (↑(List.length x.fst.snd.1) : Int)) then
              (tendrilref08_Held (List.getD x.fst.snd.1 (Int.toNat x.snd.snd.1) (0 : Int))).bind fun r1 =>
              some (r1)
            else
              none
          else
            none
        else
          some (Bool.false)
      else
        some (Bool.false)
    else
      some (Bool.false)
def tendrilref16_Waits_S : Sig := ⟨[⟨true, (.pair (.sl .int) (.pair (.sl .int) (.pair (.pair (.pair (.sl .int) (.pair (.sl .int) (.pair (.sl .int) (.sl .int)))) (.pair (.pair (.sl .int) (.pair (.sl .int) (.pair (.sl .int) (.sl .int)))) (.pair (.sl .int) (.pair (.sl .int) (.pair (.sl .int) (.sl .int)))))) (.pair .int (.sl .int)))))⟩, ⟨true, (.pair .int (.pair .int (.pair .int (.pair .int (.pair .int .int)))))⟩], [⟨false, .bool⟩], false, tendrilref16_Waits⟩
/-! tendril/tendrilref16.word -/
def tendrilref16_word (x : (List Int × List Int × ((List Int × List Int × List Int × List Int) × (List Int × List Int × List Int × List Int) × List Int × List Int × List Int × List Int) × Int × List Int) × Int × Int × Int × Int × Int × Int) : Option (Int × Bool) :=
  bif Decidable.decide (x.snd.snd.1 < (0 : Int)) then
    some (((0 : Int), Bool.false))
  else
    bif Decidable.decide ((↑(List.length x.fst.snd.1) : Int) ≤ x.snd.snd.1) then
      some (((0 : Int), Bool.false))
    else
      bif Decidable.decide ((0 : Int) ≤ x.snd.snd.1) then
        bif Decidable.decide (x.snd.snd.1 < (↑(List.length x.fst.snd.1) : Int)) then
          some ((List.getD x.fst.snd.1 (Int.toNat x.snd.snd.1) (0 : Int), Bool.true))
        else
          none
      else
        none
def tendrilref16_word_S : Sig := ⟨[⟨true, (.pair (.sl .int) (.pair (.sl .int) (.pair (.pair (.pair (.sl .int) (.pair (.sl .int) (.pair (.sl .int) (.sl .int)))) (.pair (.pair (.sl .int) (.pair (.sl .int) (.pair (.sl .int) (.sl .int)))) (.pair (.sl .int) (.pair (.sl .int) (.pair (.sl .int) (.sl .int)))))) (.pair .int (.sl .int)))))⟩, ⟨true, (.pair .int (.pair .int (.pair .int (.pair .int (.pair .int .int)))))⟩], [⟨false, .int⟩, ⟨false, .bool⟩], false, tendrilref16_word⟩
/-! tendril/tendrilref06.Pin -/
def tendrilref06_Pin (x : (Int × List Int) × Int) : Option ((Int × List Int) × Int) :=
  (tendrilref06_Check ((x.fst.1, x.fst.2))).bind fun r0 =>
  bif r0 != (0 : Int) then
    some ((((0 : Int), []), (1 : Int)))
  else
    bif Decidable.decide (x.2 < (0 : Int)) then
      some ((((0 : Int), []), (1 : Int)))
    else
      bif Decidable.decide ((↑(List.length x.fst.2) : Int) ≤ x.2) then
        some ((((0 : Int), []), (1 : Int)))
      else
        bif Decidable.decide ((0 : Int) ≤ x.2) then
          bif Decidable.decide (x.2 < (↑(List.length x.fst.2) : Int)) then
            bif List.getD x.fst.2 (Int.toNat x.2) (0 : Int) != (-1 : Int) then
              some ((((0 : Int), []), (1 : Int)))
            else
              (tendrilref02_Copy (x.fst.2)).bind fun r1 =>
              bif Decidable.decide ((0 : Int) ≤ x.2) then
                bif Decidable.decide (x.2 < (↑(List.length r1) : Int)) then
                  some (((x.fst.1, List.set r1 (Int.toNat x.2) x.fst.1), (0 : Int)))
                else
                  none
              else
                none
          else
            none
        else
          none
def tendrilref06_Pin_S : Sig := ⟨[⟨true, (.pair .int (.sl .int))⟩, ⟨false, .int⟩], [⟨true, (.pair .int (.sl .int))⟩, ⟨false, .int⟩], true, tendrilref06_Pin⟩
/-! tendril/tendrilref07.Pin -/
def tendrilref07_Pin (x : (List Int × List Int × ((List Int × List Int × List Int × List Int) × (List Int × List Int × List Int × List Int) × List Int × List Int × List Int × List Int) × Int × List Int) × Int) : Option ((List Int × List Int × ((List Int × List Int × List Int × List Int) × (List Int × List Int × List Int × List Int) × List Int × List Int × List Int × List Int) × Int × List Int) × Int) :=
  (tendrilref07_Check ((x.fst.1, x.fst.snd.1, ((x.fst.snd.snd.fst.fst.1, x.fst.snd.snd.fst.fst.snd.1, x.fst.snd.snd.fst.fst.snd.snd.1, x.fst.snd.snd.fst.fst.snd.snd.2), (x.fst.snd.snd.fst.snd.fst.1, x.fst.snd.snd.fst.snd.fst.snd.1, x.fst.snd.snd.fst.snd.fst.snd.snd.1, x.fst.snd.snd.fst.snd.fst.snd.snd.2), x.fst.snd.snd.fst.snd.snd.1, x.fst.snd.snd.fst.snd.snd.snd.1, x.fst.snd.snd.fst.snd.snd.snd.snd.1, x.fst.snd.snd.fst.snd.snd.snd.snd.2), x.fst.snd.snd.snd.1, x.fst.snd.snd.snd.2))).bind fun r0 =>
  bif r0 != (0 : Int) then
    some ((([], [], (([], [], [], []), ([], [], [], []), [], [], [], []), (0 : Int), []), (1 : Int)))
  else
    (tendrilref06_Pin (((x.fst.snd.snd.snd.1, x.fst.snd.snd.snd.2), x.2))).bind fun r1 =>
    bif r1.2 != (0 : Int) then
      some ((([], [], (([], [], [], []), ([], [], [], []), [], [], [], []), (0 : Int), []), r1.2))
    else
      some (((x.fst.1, x.fst.snd.1, ((x.fst.snd.snd.fst.fst.1, x.fst.snd.snd.fst.fst.snd.1, x.fst.snd.snd.fst.fst.snd.snd.1, x.fst.snd.snd.fst.fst.snd.snd.2), (x.fst.snd.snd.fst.snd.fst.1, x.fst.snd.snd.fst.snd.fst.snd.1, x.fst.snd.snd.fst.snd.fst.snd.snd.1, x.fst.snd.snd.fst.snd.fst.snd.snd.2), x.fst.snd.snd.fst.snd.snd.1, x.fst.snd.snd.fst.snd.snd.snd.1, x.fst.snd.snd.fst.snd.snd.snd.snd.1, x.fst.snd.snd.fst.snd.snd.snd.snd.2), r1.fst.1, r1.fst.2), (0 : Int)))
def tendrilref07_Pin_S : Sig := ⟨[⟨true, (.pair (.sl .int) (.pair (.sl .int) (.pair (.pair (.pair (.sl .int) (.pair (.sl .int) (.pair (.sl .int) (.sl .int)))) (.pair (.pair (.sl .int) (.pair (.sl .int) (.pair (.sl .int) (.sl .int)))) (.pair (.sl .int) (.pair (.sl .int) (.pair (.sl .int) (.sl .int)))))) (.pair .int (.sl .int)))))⟩, ⟨false, .int⟩], [⟨true, (.pair (.sl .int) (.pair (.sl .int) (.pair (.pair (.pair (.sl .int) (.pair (.sl .int) (.pair (.sl .int) (.sl .int)))) (.pair (.pair (.sl .int) (.pair (.sl .int) (.pair (.sl .int) (.sl .int)))) (.pair (.sl .int) (.pair (.sl .int) (.pair (.sl .int) (.sl .int)))))) (.pair .int (.sl .int)))))⟩, ⟨false, .int⟩], false, tendrilref07_Pin⟩
/-! tendril/tendrilref06.Unpin -/
def tendrilref06_Unpin (x : (Int × List Int) × Int) : Option ((Int × List Int) × Int) :=
  (tendrilref06_Check ((x.fst.1, x.fst.2))).bind fun r0 =>
  bif r0 != (0 : Int) then
    some ((((0 : Int), []), (1 : Int)))
  else
    bif Decidable.decide (x.2 < (0 : Int)) then
      some ((((0 : Int), []), (1 : Int)))
    else
      bif Decidable.decide ((↑(List.length x.fst.2) : Int) ≤ x.2) then
        some ((((0 : Int), []), (1 : Int)))
      else
        bif Decidable.decide ((0 : Int) ≤ x.2) then
          bif Decidable.decide (x.2 < (↑(List.length x.fst.2) : Int)) then
            bif List.getD x.fst.2 (Int.toNat x.2) (0 : Int) == (-1 : Int) then
              some ((((0 : Int), []), (2 : Int)))
            else
              (tendrilref02_Copy (x.fst.2)).bind fun r1 =>
              bif Decidable.decide ((0 : Int) ≤ x.2) then
                bif Decidable.decide (x.2 < (↑(List.length r1) : Int)) then
                  some (((x.fst.1, List.set r1 (Int.toNat x.2) (-1 : Int)), (0 : Int)))
                else
                  none
              else
                none
          else
            none
        else
          none
def tendrilref06_Unpin_S : Sig := ⟨[⟨true, (.pair .int (.sl .int))⟩, ⟨false, .int⟩], [⟨true, (.pair .int (.sl .int))⟩, ⟨false, .int⟩], true, tendrilref06_Unpin⟩
/-! tendril/tendrilref06.Turn -/
def tendrilref06_Turn_L12 : Nat → (List Int) → (Int) → (Int) → (Int) → (List Int) → (Int) → (Int) → (List Int) → Option ((Int × List Int) × Bool)
  | 0, _, _, _, _, _, _, _, _ => none
  | k + 1, p0, p1, p2, p3, p4, p5, p6, p7 =>
    bif Decidable.decide (p2 < p1) then
      bif Decidable.decide ((0 : Int) ≤ p2) then
        bif Decidable.decide (p2 < (↑p0.length : Int)) then
          bif p0.getD p2.toNat (0 : Int) != (-1 : Int) then
            bif p0.getD p2.toNat (0 : Int) != p3 then
              some (((p6, p7), Bool.false))
            else
              tendrilref06_Turn_L12 k (p0) (p1) (Go.RowKit.wrap64 (p2 + (1 : Int))) (p3) (p4) (p5) (p6) (p7)
          else
            tendrilref06_Turn_L12 k (p0) (p1) (Go.RowKit.wrap64 (p2 + (1 : Int))) (p3) (p4) (p5) (p6) (p7)
        else
          none
      else
        none
    else
      bif p3 == (1152921504606846976 : Int) then
        some (((p6, p7), Bool.false))
      else
        some (((Go.RowKit.wrap64 (p6 + (1 : Int)), p7), Bool.true))
def tendrilref06_Turn_K (K : Nat) (x : Int × List Int) : Option ((Int × List Int) × Bool) :=
  (tendrilref06_Check ((x.1, x.2))).bind fun r0 =>
  bif r0 != (0 : Int) then
    some ((((0 : Int), []), Bool.false))
  else
    (tendrilref02_Copy (x.2)).bind fun r1 =>
    tendrilref06_Turn_L12 K (x.2) ((↑(List.length x.2) : Int)) ((0 : Int)) (x.1) (x.2) ((0 : Int)) (x.1) (r1)
def tendrilref06_Turn (x : (Int × (List Int))) : Option ((Int × (List Int)) × Bool) := tendrilref06_Turn_K 2000000 x
def tendrilref06_Turn_S : Sig := ⟨[⟨true, (.pair .int (.sl .int))⟩], [⟨true, (.pair .int (.sl .int))⟩, ⟨false, .bool⟩], true, tendrilref06_Turn⟩
/-! tendril/tendrilref05.Copy -/
def tendrilref05_Copy (x : List Int × List Int × List Int × List Int) : Option (List Int × List Int × List Int × List Int) :=
  (tendrilref02_Copy (x.1)).bind fun r0 =>
  (tendrilref02_Copy (x.snd.1)).bind fun r1 =>
  (tendrilref02_Copy (x.snd.snd.1)).bind fun r2 =>
  (tendrilref02_Copy (x.snd.snd.2)).bind fun r3 =>
  some ((r0, r1, r2, r3))
def tendrilref05_Copy_S : Sig := ⟨[⟨true, (.pair (.sl .int) (.pair (.sl .int) (.pair (.sl .int) (.sl .int))))⟩], [⟨true, (.pair (.sl .int) (.pair (.sl .int) (.pair (.sl .int) (.sl .int))))⟩], true, tendrilref05_Copy⟩
/-! tendril/tendrilref05.Reclaim -/
def tendrilref05_Reclaim_L14 : Nat → (Int) → (Int) → (Int) → (Int) → (List Int) → (List Int) → (List Int) → (List Int) → (List Int) → (List Int) → (List Int) → (List Int) → Option ((List Int × List Int × List Int × List Int) × Int)
  | 0, _, _, _, _, _, _, _, _, _, _, _, _ => none
  | k + 1, p0, p1, p2, p3, p4, p5, p6, p7, p8, p9, p10, p11 =>
    bif Decidable.decide (p3 < p2) then
      bif Decidable.decide ((0 : Int) ≤ p3) then
        bif Decidable.decide (p3 < (↑p5.length : Int)) then
          bif p5.getD p3.toNat (0 : Int) == (2 : Int) then
            bif Decidable.decide ((0 : Int) ≤ p3) then
              bif Decidable.decide (p3 < (↑p6.length : Int)) then
                bif Decidable.decide (p6.getD p3.toNat (0 : Int) ≤ p0) then
                  bif Decidable.decide ((0 : Int) ≤ p3) then
                    bif Decidable.decide (p3 < (↑p4.length : Int)) then
                      bif Decidable.decide (p4.getD p3.toNat (0 : Int) < (1099511627775 : Int)) then
                        bif Decidable.decide ((0 : Int) ≤ p3) then
                          bif Decidable.decide (p3 < (↑p9.length : Int)) then
                            bif Decidable.decide ((0 : Int) ≤ p3) then
                              bif Decidable.decide (p3 < (↑p10.length : Int)) then
                                bif Decidable.decide ((0 : Int) ≤ p3) then
                                  bif Decidable.decide (p3 < (↑p8.length : Int)) then
                                    bif Decidable.decide ((0 : Int) ≤ p3) then
                                      bif Decidable.decide (p3 < (↑p8.length : Int)) then
                                        bif Decidable.decide (p11.length + [p3].length ≤ (1000000 : Nat)) then
                                          tendrilref05_Reclaim_L14 k (p0) (Go.RowKit.wrap64 (p1 + (1 : Int))) (p2) (Go.RowKit.wrap64 (p3 + (1 : Int))) (p4) (p5) (p6) (p7) (p8.set p3.toNat (Go.RowKit.wrap64 (p8.getD p3.toNat (0 : Int) + (1 : Int)))) (p9.set p3.toNat (0 : Int)) (p10.set p3.toNat (0 : Int)) (p11 ++ [p3])
                                        else
                                          none
                                      else
                                        none
                                    else
                                      none
                                  else
                                    none
                                else
                                  none
                              else
                                none
                            else
                              none
                          else
                            none
                        else
                          none
                      else
                        tendrilref05_Reclaim_L14 k (p0) (p1) (p2) (Go.RowKit.wrap64 (p3 + (1 : Int))) (p4) (p5) (p6) (p7) (p8) (p9) (p10) (p11)
                    else
                      none
                  else
                    none
                else
                  tendrilref05_Reclaim_L14 k (p0) (p1) (p2) (Go.RowKit.wrap64 (p3 + (1 : Int))) (p4) (p5) (p6) (p7) (p8) (p9) (p10) (p11)
              else
                none
            else
              none
          else
            tendrilref05_Reclaim_L14 k (p0) (p1) (p2) (Go.RowKit.wrap64 (p3 + (1 : Int))) (p4) (p5) (p6) (p7) (p8) (p9) (p10) (p11)
        else
          none
      else
        none
    else
      some (((p8, p9, p10, p11), p1))
def tendrilref05_Reclaim_K (K : Nat) (x : (List Int × List Int × List Int × List Int) × Int) : Option ((List Int × List Int × List Int × List Int) × Int) :=
  (tendrilref05_Check ((x.fst.1, x.fst.snd.1, x.fst.snd.snd.1, x.fst.snd.snd.2))).bind fun r0 =>
  bif r0 != (0 : Int) then
    some ((([], [], [], []), (0 : Int)))
  else
    (tendrilref05_Copy ((x.fst.1, x.fst.snd.1, x.fst.snd.snd.1, x.fst.snd.snd.2))).bind fun r1 =>
    tendrilref05_Reclaim_L14 K (x.2) ((0 : Int)) ((↑(List.length x.fst.1) : Int)) ((0 : Int)) (x.fst.1) (x.fst.snd.1) (x.fst.snd.snd.1) (x.fst.snd.snd.2) (r1.1) (r1.snd.1) (r1.snd.snd.1) (r1.snd.snd.2)
def tendrilref05_Reclaim (x : ((List Int) × ((List Int) × ((List Int) × (List Int)))) × Int) : Option (((List Int) × ((List Int) × ((List Int) × (List Int)))) × Int) := tendrilref05_Reclaim_K 2000000 x
def tendrilref05_Reclaim_S : Sig := ⟨[⟨true, (.pair (.sl .int) (.pair (.sl .int) (.pair (.sl .int) (.sl .int))))⟩, ⟨false, .int⟩], [⟨true, (.pair (.sl .int) (.pair (.sl .int) (.pair (.sl .int) (.sl .int))))⟩, ⟨false, .int⟩], true, tendrilref05_Reclaim⟩
/-! tendril/tendrilref06.Safe -/
def tendrilref06_Safe (x : Int × List Int) : Option (Int) :=
  (tendrilref06_Check ((x.1, x.2))).bind fun r0 =>
  bif r0 != (0 : Int) then
    some ((-1 : Int))
  else
    some (Go.RowKit.wrap64 (x.1 - (2 : Int)))
def tendrilref06_Safe_S : Sig := ⟨[⟨true, (.pair .int (.sl .int))⟩], [⟨false, .int⟩], false, tendrilref06_Safe⟩
/-! tendril/tendrilref07.Turn -/
mutual
def tendrilref07_Turn_L14 : Nat → (Bool) → (Int) → (List Int) → (List Int) → (List Int) → (List Int) → (List Int) → (List Int) → (List Int) → (List Int) → (List Int) → (List Int) → (List Int) → (List Int) → (List Int) → (List Int) → (Int) → (Int) → (Int) → (List Int) → Option ((List Int × List Int × ((List Int × List Int × List Int × List Int) × (List Int × List Int × List Int × List Int) × List Int × List Int × List Int × List Int) × Int × List Int) × Bool)
  | 0, _, _, _, _, _, _, _, _, _, _, _, _, _, _, _, _, _, _, _, _ => none
  | k + 1, p0, p1, p2, p3, p4, p5, p6, p7, p8, p9, p10, p11, p12, p13, p14, p15, p16, p17, p18, p19 =>
    bif Decidable.decide (p1 < (3 : Int)) then
      bif p0 then
        bif Decidable.decide (p1 = (↑(nat_lit 2) : Int)) then
          (tendrilref06_Safe ((p18, p19))).bind fun r2 =>
          (tendrilref05_Reclaim (((p12, p13, p14, p15), r2))).bind fun r3 =>
          bif Decidable.decide (p1 = (↑(nat_lit 2) : Int)) then
            tendrilref07_Turn_L14x1 k (p0) (Go.RowKit.wrap64 (p1 + (1 : Int))) (p2) (p3) (p4) (p5) (p6) (p7) (p8) (p9) (p10) (p11) (p16) (p17) (p18) (r3.fst.1) (r3.fst.snd.1) (r3.fst.snd.snd.1) (r3.fst.snd.snd.2) (p19)
          else
            bif Decidable.decide (p1 = (↑(nat_lit 1) : Int)) then
              tendrilref07_Turn_L14x2 k (p0) (Go.RowKit.wrap64 (p1 + (1 : Int))) (p2) (p3) (p4) (p5) (p6) (p7) (p12) (p13) (p14) (p15) (p16) (p17) (p18) (r3.fst.1) (r3.fst.snd.1) (r3.fst.snd.snd.1) (r3.fst.snd.snd.2) (p19)
            else
              bif Decidable.decide (p1 = (↑(nat_lit 0) : Int)) then
                tendrilref07_Turn_L14x3 k (p0) (Go.RowKit.wrap64 (p1 + (1 : Int))) (p2) (p3) (p8) (p9) (p10) (p11) (p12) (p13) (p14) (p15) (p16) (p17) (p18) (r3.fst.1) (r3.fst.snd.1) (r3.fst.snd.snd.1) (r3.fst.snd.snd.2) (p19)
              else
                none
        else
          bif Decidable.decide (p1 = (↑(nat_lit 1) : Int)) then
            (tendrilref06_Safe ((p18, p19))).bind fun r4 =>
            (tendrilref05_Reclaim (((p8, p9, p10, p11), r4))).bind fun r5 =>
            bif Decidable.decide (p1 = (↑(nat_lit 2) : Int)) then
              tendrilref07_Turn_L14x1 k (p0) (Go.RowKit.wrap64 (p1 + (1 : Int))) (p2) (p3) (p4) (p5) (p6) (p7) (p8) (p9) (p10) (p11) (p16) (p17) (p18) (r5.fst.1) (r5.fst.snd.1) (r5.fst.snd.snd.1) (r5.fst.snd.snd.2) (p19)
            else
              bif Decidable.decide (p1 = (↑(nat_lit 1) : Int)) then
                tendrilref07_Turn_L14x2 k (p0) (Go.RowKit.wrap64 (p1 + (1 : Int))) (p2) (p3) (p4) (p5) (p6) (p7) (p12) (p13) (p14) (p15) (p16) (p17) (p18) (r5.fst.1) (r5.fst.snd.1) (r5.fst.snd.snd.1) (r5.fst.snd.snd.2) (p19)
              else
                bif Decidable.decide (p1 = (↑(nat_lit 0) : Int)) then
                  tendrilref07_Turn_L14x3 k (p0) (Go.RowKit.wrap64 (p1 + (1 : Int))) (p2) (p3) (p8) (p9) (p10) (p11) (p12) (p13) (p14) (p15) (p16) (p17) (p18) (r5.fst.1) (r5.fst.snd.1) (r5.fst.snd.snd.1) (r5.fst.snd.snd.2) (p19)
                else
                  none
          else
            bif Decidable.decide (p1 = (↑(nat_lit 0) : Int)) then
              (tendrilref06_Safe ((p18, p19))).bind fun r6 =>
              (tendrilref05_Reclaim (((p4, p5, p6, p7), r6))).bind fun r7 =>
              bif Decidable.decide (p1 = (↑(nat_lit 2) : Int)) then
                tendrilref07_Turn_L14x1 k (p0) (Go.RowKit.wrap64 (p1 + (1 : Int))) (p2) (p3) (p4) (p5) (p6) (p7) (p8) (p9) (p10) (p11) (p16) (p17) (p18) (r7.fst.1) (r7.fst.snd.1) (r7.fst.snd.snd.1) (r7.fst.snd.snd.2) (p19)
              else
                bif Decidable.decide (p1 = (↑(nat_lit 1) : Int)) then
                  tendrilref07_Turn_L14x2 k (p0) (Go.RowKit.wrap64 (p1 + (1 : Int))) (p2) (p3) (p4) (p5) (p6) (p7) (p12) (p13) (p14) (p15) (p16) (p17) (p18) (r7.fst.1) (r7.fst.snd.1) (r7.fst.snd.snd.1) (r7.fst.snd.snd.2) (p19)
                else
                  bif Decidable.decide (p1 = (↑(nat_lit 0) : Int)) then
                    tendrilref07_Turn_L14x3 k (p0) (Go.RowKit.wrap64 (p1 + (1 : Int))) (p2) (p3) (p8) (p9) (p10) (p11) (p12) (p13) (p14) (p15) (p16) (p17) (p18) (r7.fst.1) (r7.fst.snd.1) (r7.fst.snd.snd.1) (r7.fst.snd.snd.2) (p19)
                  else
                    none
            else
              none
      else
        tendrilref07_Turn_L14 k (p0) (Go.RowKit.wrap64 (p1 + (1 : Int))) (p2) (p3) (p4) (p5) (p6) (p7) (p8) (p9) (p10) (p11) (p12) (p13) (p14) (p15) (p16) (p17) (p18) (p19)
    else
      some (((p2, p3, ((p4, p5, p6, p7), (p8, p9, p10, p11), p12, p13, p14, p15), p16, p19), p0))
def tendrilref07_Turn_L14x1 : Nat → (Bool) → (Int) → (List Int) → (List Int) → (List Int) → (List Int) → (List Int) → (List Int) → (List Int) → (List Int) → (List Int) → (List Int) → (Int) → (Int) → (Int) → (List Int) → (List Int) → (List Int) → (List Int) → (List Int) → Option ((List Int × List Int × ((List Int × List Int × List Int × List Int) × (List Int × List Int × List Int × List Int) × List Int × List Int × List Int × List Int) × Int × List Int) × Bool)
  | 0, _, _, _, _, _, _, _, _, _, _, _, _, _, _, _, _, _, _, _, _ => none
  | k + 1, p0, p1, p2, p3, p4, p5, p6, p7, p8, p9, p10, p11, p12, p13, p14, p15, p16, p17, p18, p19 =>
    bif Decidable.decide (p1 < (3 : Int)) then
      bif p0 then
        bif Decidable.decide (p1 = (↑(nat_lit 2) : Int)) then
          (tendrilref06_Safe ((p14, p19))).bind fun r8 =>
          (tendrilref05_Reclaim (((p15, p16, p17, p18), r8))).bind fun r9 =>
          bif Decidable.decide (p1 = (↑(nat_lit 2) : Int)) then
            tendrilref07_Turn_L14x1 k (p0) (Go.RowKit.wrap64 (p1 + (1 : Int))) (p2) (p3) (p4) (p5) (p6) (p7) (p8) (p9) (p10) (p11) (p12) (p13) (p14) (r9.fst.1) (r9.fst.snd.1) (r9.fst.snd.snd.1) (r9.fst.snd.snd.2) (p19)
          else
            bif Decidable.decide (p1 = (↑(nat_lit 1) : Int)) then
              tendrilref07_Turn_L14x4 k (p0) (Go.RowKit.wrap64 (p1 + (1 : Int))) (p2) (p3) (p4) (p5) (p6) (p7) (p12) (p13) (p14) (r9.fst.1) (r9.fst.snd.1) (r9.fst.snd.snd.1) (r9.fst.snd.snd.2) (p15) (p16) (p17) (p18) (p19)
            else
              bif Decidable.decide (p1 = (↑(nat_lit 0) : Int)) then
                tendrilref07_Turn_L14x5 k (p0) (Go.RowKit.wrap64 (p1 + (1 : Int))) (p2) (p3) (p8) (p9) (p10) (p11) (p12) (p13) (p14) (r9.fst.1) (r9.fst.snd.1) (r9.fst.snd.snd.1) (r9.fst.snd.snd.2) (p15) (p16) (p17) (p18) (p19)
              else
                none
        else
          bif Decidable.decide (p1 = (↑(nat_lit 1) : Int)) then
            (tendrilref06_Safe ((p14, p19))).bind fun r10 =>
            (tendrilref05_Reclaim (((p8, p9, p10, p11), r10))).bind fun r11 =>
            bif Decidable.decide (p1 = (↑(nat_lit 2) : Int)) then
              tendrilref07_Turn_L14x1 k (p0) (Go.RowKit.wrap64 (p1 + (1 : Int))) (p2) (p3) (p4) (p5) (p6) (p7) (p8) (p9) (p10) (p11) (p12) (p13) (p14) (r11.fst.1) (r11.fst.snd.1) (r11.fst.snd.snd.1) (r11.fst.snd.snd.2) (p19)
            else
              bif Decidable.decide (p1 = (↑(nat_lit 1) : Int)) then
                tendrilref07_Turn_L14x4 k (p0) (Go.RowKit.wrap64 (p1 + (1 : Int))) (p2) (p3) (p4) (p5) (p6) (p7) (p12) (p13) (p14) (r11.fst.1) (r11.fst.snd.1) (r11.fst.snd.snd.1) (r11.fst.snd.snd.2) (p15) (p16) (p17) (p18) (p19)
              else
                bif Decidable.decide (p1 = (↑(nat_lit 0) : Int)) then
                  tendrilref07_Turn_L14x5 k (p0) (Go.RowKit.wrap64 (p1 + (1 : Int))) (p2) (p3) (p8) (p9) (p10) (p11) (p12) (p13) (p14) (r11.fst.1) (r11.fst.snd.1) (r11.fst.snd.snd.1) (r11.fst.snd.snd.2) (p15) (p16) (p17) (p18) (p19)
                else
                  none
          else
            bif Decidable.decide (p1 = (↑(nat_lit 0) : Int)) then
              (tendrilref06_Safe ((p14, p19))).bind fun r12 =>
              (tendrilref05_Reclaim (((p4, p5, p6, p7), r12))).bind fun r13 =>
              bif Decidable.decide (p1 = (↑(nat_lit 2) : Int)) then
                tendrilref07_Turn_L14x1 k (p0) (Go.RowKit.wrap64 (p1 + (1 : Int))) (p2) (p3) (p4) (p5) (p6) (p7) (p8) (p9) (p10) (p11) (p12) (p13) (p14) (r13.fst.1) (r13.fst.snd.1) (r13.fst.snd.snd.1) (r13.fst.snd.snd.2) (p19)
              else
                bif Decidable.decide (p1 = (↑(nat_lit 1) : Int)) then
                  tendrilref07_Turn_L14x4 k (p0) (Go.RowKit.wrap64 (p1 + (1 : Int))) (p2) (p3) (p4) (p5) (p6) (p7) (p12) (p13) (p14) (r13.fst.1) (r13.fst.snd.1) (r13.fst.snd.snd.1) (r13.fst.snd.snd.2) (p15) (p16) (p17) (p18) (p19)
                else
                  bif Decidable.decide (p1 = (↑(nat_lit 0) : Int)) then
                    tendrilref07_Turn_L14x5 k (p0) (Go.RowKit.wrap64 (p1 + (1 : Int))) (p2) (p3) (p8) (p9) (p10) (p11) (p12) (p13) (p14) (r13.fst.1) (r13.fst.snd.1) (r13.fst.snd.snd.1) (r13.fst.snd.snd.2) (p15) (p16) (p17) (p18) (p19)
                  else
                    none
            else
              none
      else
        tendrilref07_Turn_L14x1 k (p0) (Go.RowKit.wrap64 (p1 + (1 : Int))) (p2) (p3) (p4) (p5) (p6) (p7) (p8) (p9) (p10) (p11) (p12) (p13) (p14) (p15) (p16) (p17) (p18) (p19)
    else
      some (((p2, p3, ((p4, p5, p6, p7), (p8, p9, p10, p11), p15, p16, p17, p18), p12, p19), p0))
def tendrilref07_Turn_L14x2 : Nat → (Bool) → (Int) → (List Int) → (List Int) → (List Int) → (List Int) → (List Int) → (List Int) → (List Int) → (List Int) → (List Int) → (List Int) → (Int) → (Int) → (Int) → (List Int) → (List Int) → (List Int) → (List Int) → (List Int) → Option ((List Int × List Int × ((List Int × List Int × List Int × List Int) × (List Int × List Int × List Int × List Int) × List Int × List Int × List Int × List Int) × Int × List Int) × Bool)
  | 0, _, _, _, _, _, _, _, _, _, _, _, _, _, _, _, _, _, _, _, _ => none
  | k + 1, p0, p1, p2, p3, p4, p5, p6, p7, p8, p9, p10, p11, p12, p13, p14, p15, p16, p17, p18, p19 =>
    bif Decidable.decide (p1 < (3 : Int)) then
      bif p0 then
        bif Decidable.decide (p1 = (↑(nat_lit 2) : Int)) then
          (tendrilref06_Safe ((p14, p19))).bind fun r14 =>
          (tendrilref05_Reclaim (((p8, p9, p10, p11), r14))).bind fun r15 =>
          bif Decidable.decide (p1 = (↑(nat_lit 2) : Int)) then
            tendrilref07_Turn_L14x4 k (p0) (Go.RowKit.wrap64 (p1 + (1 : Int))) (p2) (p3) (p4) (p5) (p6) (p7) (p12) (p13) (p14) (p15) (p16) (p17) (p18) (r15.fst.1) (r15.fst.snd.1) (r15.fst.snd.snd.1) (r15.fst.snd.snd.2) (p19)
          else
            bif Decidable.decide (p1 = (↑(nat_lit 1) : Int)) then
              tendrilref07_Turn_L14x2 k (p0) (Go.RowKit.wrap64 (p1 + (1 : Int))) (p2) (p3) (p4) (p5) (p6) (p7) (p8) (p9) (p10) (p11) (p12) (p13) (p14) (r15.fst.1) (r15.fst.snd.1) (r15.fst.snd.snd.1) (r15.fst.snd.snd.2) (p19)
            else
              bif Decidable.decide (p1 = (↑(nat_lit 0) : Int)) then
                tendrilref07_Turn_L14x6 k (p0) (Go.RowKit.wrap64 (p1 + (1 : Int))) (p2) (p3) (p8) (p9) (p10) (p11) (p12) (p13) (p14) (r15.fst.1) (r15.fst.snd.1) (r15.fst.snd.snd.1) (r15.fst.snd.snd.2) (p15) (p16) (p17) (p18) (p19)
              else
                none
        else
          bif Decidable.decide (p1 = (↑(nat_lit 1) : Int)) then
            (tendrilref06_Safe ((p14, p19))).bind fun r16 =>
            (tendrilref05_Reclaim (((p15, p16, p17, p18), r16))).bind fun r17 =>
            bif Decidable.decide (p1 = (↑(nat_lit 2) : Int)) then
              tendrilref07_Turn_L14x4 k (p0) (Go.RowKit.wrap64 (p1 + (1 : Int))) (p2) (p3) (p4) (p5) (p6) (p7) (p12) (p13) (p14) (p15) (p16) (p17) (p18) (r17.fst.1) (r17.fst.snd.1) (r17.fst.snd.snd.1) (r17.fst.snd.snd.2) (p19)
            else
              bif Decidable.decide (p1 = (↑(nat_lit 1) : Int)) then
                tendrilref07_Turn_L14x2 k (p0) (Go.RowKit.wrap64 (p1 + (1 : Int))) (p2) (p3) (p4) (p5) (p6) (p7) (p8) (p9) (p10) (p11) (p12) (p13) (p14) (r17.fst.1) (r17.fst.snd.1) (r17.fst.snd.snd.1) (r17.fst.snd.snd.2) (p19)
              else
                bif Decidable.decide (p1 = (↑(nat_lit 0) : Int)) then
                  tendrilref07_Turn_L14x6 k (p0) (Go.RowKit.wrap64 (p1 + (1 : Int))) (p2) (p3) (p8) (p9) (p10) (p11) (p12) (p13) (p14) (r17.fst.1) (r17.fst.snd.1) (r17.fst.snd.snd.1) (r17.fst.snd.snd.2) (p15) (p16) (p17) (p18) (p19)
                else
                  none
          else
            bif Decidable.decide (p1 = (↑(nat_lit 0) : Int)) then
              (tendrilref06_Safe ((p14, p19))).bind fun r18 =>
              (tendrilref05_Reclaim (((p4, p5, p6, p7), r18))).bind fun r19 =>
              bif Decidable.decide (p1 = (↑(nat_lit 2) : Int)) then
                tendrilref07_Turn_L14x4 k (p0) (Go.RowKit.wrap64 (p1 + (1 : Int))) (p2) (p3) (p4) (p5) (p6) (p7) (p12) (p13) (p14) (p15) (p16) (p17) (p18) (r19.fst.1) (r19.fst.snd.1) (r19.fst.snd.snd.1) (r19.fst.snd.snd.2) (p19)
              else
                bif Decidable.decide (p1 = (↑(nat_lit 1) : Int)) then
                  tendrilref07_Turn_L14x2 k (p0) (Go.RowKit.wrap64 (p1 + (1 : Int))) (p2) (p3) (p4) (p5) (p6) (p7) (p8) (p9) (p10) (p11) (p12) (p13) (p14) (r19.fst.1) (r19.fst.snd.1) (r19.fst.snd.snd.1) (r19.fst.snd.snd.2) (p19)
                else
                  bif Decidable.decide (p1 = (↑(nat_lit 0) : Int)) then
                    tendrilref07_Turn_L14x6 k (p0) (Go.RowKit.wrap64 (p1 + (1 : Int))) (p2) (p3) (p8) (p9) (p10) (p11) (p12) (p13) (p14) (r19.fst.1) (r19.fst.snd.1) (r19.fst.snd.snd.1) (r19.fst.snd.snd.2) (p15) (p16) (p17) (p18) (p19)
                  else
                    none
            else
              none
      else
        tendrilref07_Turn_L14x2 k (p0) (Go.RowKit.wrap64 (p1 + (1 : Int))) (p2) (p3) (p4) (p5) (p6) (p7) (p8) (p9) (p10) (p11) (p12) (p13) (p14) (p15) (p16) (p17) (p18) (p19)
    else
      some (((p2, p3, ((p4, p5, p6, p7), (p15, p16, p17, p18), p8, p9, p10, p11), p12, p19), p0))
def tendrilref07_Turn_L14x3 : Nat → (Bool) → (Int) → (List Int) → (List Int) → (List Int) → (List Int) → (List Int) → (List Int) → (List Int) → (List Int) → (List Int) → (List Int) → (Int) → (Int) → (Int) → (List Int) → (List Int) → (List Int) → (List Int) → (List Int) → Option ((List Int × List Int × ((List Int × List Int × List Int × List Int) × (List Int × List Int × List Int × List Int) × List Int × List Int × List Int × List Int) × Int × List Int) × Bool)
  | 0, _, _, _, _, _, _, _, _, _, _, _, _, _, _, _, _, _, _, _, _ => none
  | k + 1, p0, p1, p2, p3, p4, p5, p6, p7, p8, p9, p10, p11, p12, p13, p14, p15, p16, p17, p18, p19 =>
    bif Decidable.decide (p1 < (3 : Int)) then
      bif p0 then
        bif Decidable.decide (p1 = (↑(nat_lit 2) : Int)) then
          (tendrilref06_Safe ((p14, p19))).bind fun r20 =>
          (tendrilref05_Reclaim (((p8, p9, p10, p11), r20))).bind fun r21 =>
          bif Decidable.decide (p1 = (↑(nat_lit 2) : Int)) then
            tendrilref07_Turn_L14x5 k (p0) (Go.RowKit.wrap64 (p1 + (1 : Int))) (p2) (p3) (p4) (p5) (p6) (p7) (p12) (p13) (p14) (p15) (p16) (p17) (p18) (r21.fst.1) (r21.fst.snd.1) (r21.fst.snd.snd.1) (r21.fst.snd.snd.2) (p19)
          else
            bif Decidable.decide (p1 = (↑(nat_lit 1) : Int)) then
              tendrilref07_Turn_L14x6 k (p0) (Go.RowKit.wrap64 (p1 + (1 : Int))) (p2) (p3) (p8) (p9) (p10) (p11) (p12) (p13) (p14) (p15) (p16) (p17) (p18) (r21.fst.1) (r21.fst.snd.1) (r21.fst.snd.snd.1) (r21.fst.snd.snd.2) (p19)
            else
              bif Decidable.decide (p1 = (↑(nat_lit 0) : Int)) then
                tendrilref07_Turn_L14x3 k (p0) (Go.RowKit.wrap64 (p1 + (1 : Int))) (p2) (p3) (p4) (p5) (p6) (p7) (p8) (p9) (p10) (p11) (p12) (p13) (p14) (r21.fst.1) (r21.fst.snd.1) (r21.fst.snd.snd.1) (r21.fst.snd.snd.2) (p19)
              else
                none
        else
          bif Decidable.decide (p1 = (↑(nat_lit 1) : Int)) then
            (tendrilref06_Safe ((p14, p19))).bind fun r22 =>
            (tendrilref05_Reclaim (((p4, p5, p6, p7), r22))).bind fun r23 =>
            bif Decidable.decide (p1 = (↑(nat_lit 2) : Int)) then
              tendrilref07_Turn_L14x5 k (p0) (Go.RowKit.wrap64 (p1 + (1 : Int))) (p2) (p3) (p4) (p5) (p6) (p7) (p12) (p13) (p14) (p15) (p16) (p17) (p18) (r23.fst.1) (r23.fst.snd.1) (r23.fst.snd.snd.1) (r23.fst.snd.snd.2) (p19)
            else
              bif Decidable.decide (p1 = (↑(nat_lit 1) : Int)) then
                tendrilref07_Turn_L14x6 k (p0) (Go.RowKit.wrap64 (p1 + (1 : Int))) (p2) (p3) (p8) (p9) (p10) (p11) (p12) (p13) (p14) (p15) (p16) (p17) (p18) (r23.fst.1) (r23.fst.snd.1) (r23.fst.snd.snd.1) (r23.fst.snd.snd.2) (p19)
              else
                bif Decidable.decide (p1 = (↑(nat_lit 0) : Int)) then
                  tendrilref07_Turn_L14x3 k (p0) (Go.RowKit.wrap64 (p1 + (1 : Int))) (p2) (p3) (p4) (p5) (p6) (p7) (p8) (p9) (p10) (p11) (p12) (p13) (p14) (r23.fst.1) (r23.fst.snd.1) (r23.fst.snd.snd.1) (r23.fst.snd.snd.2) (p19)
                else
                  none
          else
            bif Decidable.decide (p1 = (↑(nat_lit 0) : Int)) then
              (tendrilref06_Safe ((p14, p19))).bind fun r24 =>
              (tendrilref05_Reclaim (((p15, p16, p17, p18), r24))).bind fun r25 =>
              bif Decidable.decide (p1 = (↑(nat_lit 2) : Int)) then
                tendrilref07_Turn_L14x5 k (p0) (Go.RowKit.wrap64 (p1 + (1 : Int))) (p2) (p3) (p4) (p5) (p6) (p7) (p12) (p13) (p14) (p15) (p16) (p17) (p18) (r25.fst.1) (r25.fst.snd.1) (r25.fst.snd.snd.1) (r25.fst.snd.snd.2) (p19)
              else
                bif Decidable.decide (p1 = (↑(nat_lit 1) : Int)) then
                  tendrilref07_Turn_L14x6 k (p0) (Go.RowKit.wrap64 (p1 + (1 : Int))) (p2) (p3) (p8) (p9) (p10) (p11) (p12) (p13) (p14) (p15) (p16) (p17) (p18) (r25.fst.1) (r25.fst.snd.1) (r25.fst.snd.snd.1) (r25.fst.snd.snd.2) (p19)
                else
                  bif Decidable.decide (p1 = (↑(nat_lit 0) : Int)) then
                    tendrilref07_Turn_L14x3 k (p0) (Go.RowKit.wrap64 (p1 + (1 : Int))) (p2) (p3) (p4) (p5) (p6) (p7) (p8) (p9) (p10) (p11) (p12) (p13) (p14) (r25.fst.1) (r25.fst.snd.1) (r25.fst.snd.snd.1) (r25.fst.snd.snd.2) (p19)
                  else
                    none
            else
              none
      else
        tendrilref07_Turn_L14x3 k (p0) (Go.RowKit.wrap64 (p1 + (1 : Int))) (p2) (p3) (p4) (p5) (p6) (p7) (p8) (p9) (p10) (p11) (p12) (p13) (p14) (p15) (p16) (p17) (p18) (p19)
    else
      some (((p2, p3, ((p15, p16, p17, p18), (p4, p5, p6, p7), p8, p9, p10, p11), p12, p19), p0))
def tendrilref07_Turn_L14x4 : Nat → (Bool) → (Int) → (List Int) → (List Int) → (List Int) → (List Int) → (List Int) → (List Int) → (Int) → (Int) → (Int) → (List Int) → (List Int) → (List Int) → (List Int) → (List Int) → (List Int) → (List Int) → (List Int) → (List Int) → Option ((List Int × List Int × ((List Int × List Int × List Int × List Int) × (List Int × List Int × List Int × List Int) × List Int × List Int × List Int × List Int) × Int × List Int) × Bool)
  | 0, _, _, _, _, _, _, _, _, _, _, _, _, _, _, _, _, _, _, _, _ => none
  | k + 1, p0, p1, p2, p3, p4, p5, p6, p7, p8, p9, p10, p11, p12, p13, p14, p15, p16, p17, p18, p19 =>
    bif Decidable.decide (p1 < (3 : Int)) then
      bif p0 then
        bif Decidable.decide (p1 = (↑(nat_lit 2) : Int)) then
          (tendrilref06_Safe ((p10, p19))).bind fun r26 =>
          (tendrilref05_Reclaim (((p15, p16, p17, p18), r26))).bind fun r27 =>
          bif Decidable.decide (p1 = (↑(nat_lit 2) : Int)) then
            tendrilref07_Turn_L14x4 k (p0) (Go.RowKit.wrap64 (p1 + (1 : Int))) (p2) (p3) (p4) (p5) (p6) (p7) (p8) (p9) (p10) (p11) (p12) (p13) (p14) (r27.fst.1) (r27.fst.snd.1) (r27.fst.snd.snd.1) (r27.fst.snd.snd.2) (p19)
          else
            bif Decidable.decide (p1 = (↑(nat_lit 1) : Int)) then
              tendrilref07_Turn_L14x4 k (p0) (Go.RowKit.wrap64 (p1 + (1 : Int))) (p2) (p3) (p4) (p5) (p6) (p7) (p8) (p9) (p10) (r27.fst.1) (r27.fst.snd.1) (r27.fst.snd.snd.1) (r27.fst.snd.snd.2) (p15) (p16) (p17) (p18) (p19)
            else
              bif Decidable.decide (p1 = (↑(nat_lit 0) : Int)) then
                tendrilref07_Turn_L14x7 k (p0) (Go.RowKit.wrap64 (p1 + (1 : Int))) (p2) (p3) (p8) (p9) (p10) (r27.fst.1) (r27.fst.snd.1) (r27.fst.snd.snd.1) (r27.fst.snd.snd.2) (p11) (p12) (p13) (p14) (p15) (p16) (p17) (p18) (p19)
              else
                none
        else
          bif Decidable.decide (p1 = (↑(nat_lit 1) : Int)) then
            (tendrilref06_Safe ((p10, p19))).bind fun r28 =>
            (tendrilref05_Reclaim (((p11, p12, p13, p14), r28))).bind fun r29 =>
            bif Decidable.decide (p1 = (↑(nat_lit 2) : Int)) then
              tendrilref07_Turn_L14x4 k (p0) (Go.RowKit.wrap64 (p1 + (1 : Int))) (p2) (p3) (p4) (p5) (p6) (p7) (p8) (p9) (p10) (p11) (p12) (p13) (p14) (r29.fst.1) (r29.fst.snd.1) (r29.fst.snd.snd.1) (r29.fst.snd.snd.2) (p19)
            else
              bif Decidable.decide (p1 = (↑(nat_lit 1) : Int)) then
                tendrilref07_Turn_L14x4 k (p0) (Go.RowKit.wrap64 (p1 + (1 : Int))) (p2) (p3) (p4) (p5) (p6) (p7) (p8) (p9) (p10) (r29.fst.1) (r29.fst.snd.1) (r29.fst.snd.snd.1) (r29.fst.snd.snd.2) (p15) (p16) (p17) (p18) (p19)
              else
                bif Decidable.decide (p1 = (↑(nat_lit 0) : Int)) then
                  tendrilref07_Turn_L14x7 k (p0) (Go.RowKit.wrap64 (p1 + (1 : Int))) (p2) (p3) (p8) (p9) (p10) (r29.fst.1) (r29.fst.snd.1) (r29.fst.snd.snd.1) (r29.fst.snd.snd.2) (p11) (p12) (p13) (p14) (p15) (p16) (p17) (p18) (p19)
                else
                  none
          else
            bif Decidable.decide (p1 = (↑(nat_lit 0) : Int)) then
              (tendrilref06_Safe ((p10, p19))).bind fun r30 =>
              (tendrilref05_Reclaim (((p4, p5, p6, p7), r30))).bind fun r31 =>
              bif Decidable.decide (p1 = (↑(nat_lit 2) : Int)) then
                tendrilref07_Turn_L14x4 k (p0) (Go.RowKit.wrap64 (p1 + (1 : Int))) (p2) (p3) (p4) (p5) (p6) (p7) (p8) (p9) (p10) (p11) (p12) (p13) (p14) (r31.fst.1) (r31.fst.snd.1) (r31.fst.snd.snd.1) (r31.fst.snd.snd.2) (p19)
              else
                bif Decidable.decide (p1 = (↑(nat_lit 1) : Int)) then
                  tendrilref07_Turn_L14x4 k (p0) (Go.RowKit.wrap64 (p1 + (1 : Int))) (p2) (p3) (p4) (p5) (p6) (p7) (p8) (p9) (p10) (r31.fst.1) (r31.fst.snd.1) (r31.fst.snd.snd.1) (r31.fst.snd.snd.2) (p15) (p16) (p17) (p18) (p19)
                else
                  bif Decidable.decide (p1 = (↑(nat_lit 0) : Int)) then
                    tendrilref07_Turn_L14x7 k (p0) (Go.RowKit.wrap64 (p1 + (1 : Int))) (p2) (p3) (p8) (p9) (p10) (r31.fst.1) (r31.fst.snd.1) (r31.fst.snd.snd.1) (r31.fst.snd.snd.2) (p11) (p12) (p13) (p14) (p15) (p16) (p17) (p18) (p19)
                  else
                    none
            else
              none
      else
        tendrilref07_Turn_L14x4 k (p0) (Go.RowKit.wrap64 (p1 + (1 : Int))) (p2) (p3) (p4) (p5) (p6) (p7) (p8) (p9) (p10) (p11) (p12) (p13) (p14) (p15) (p16) (p17) (p18) (p19)
    else
      some (((p2, p3, ((p4, p5, p6, p7), (p11, p12, p13, p14), p15, p16, p17, p18), p8, p19), p0))
def tendrilref07_Turn_L14x5 : Nat → (Bool) → (Int) → (List Int) → (List Int) → (List Int) → (List Int) → (List Int) → (List Int) → (Int) → (Int) → (Int) → (List Int) → (List Int) → (List Int) → (List Int) → (List Int) → (List Int) → (List Int) → (List Int) → (List Int) → Option ((List Int × List Int × ((List Int × List Int × List Int × List Int) × (List Int × List Int × List Int × List Int) × List Int × List Int × List Int × List Int) × Int × List Int) × Bool)
  | 0, _, _, _, _, _, _, _, _, _, _, _, _, _, _, _, _, _, _, _, _ => none
  | k + 1, p0, p1, p2, p3, p4, p5, p6, p7, p8, p9, p10, p11, p12, p13, p14, p15, p16, p17, p18, p19 =>
    bif Decidable.decide (p1 < (3 : Int)) then
      bif p0 then
        bif Decidable.decide (p1 = (↑(nat_lit 2) : Int)) then
          (tendrilref06_Safe ((p10, p19))).bind fun r32 =>
          (tendrilref05_Reclaim (((p15, p16, p17, p18), r32))).bind fun r33 =>
          bif Decidable.decide (p1 = (↑(nat_lit 2) : Int)) then
            tendrilref07_Turn_L14x5 k (p0) (Go.RowKit.wrap64 (p1 + (1 : Int))) (p2) (p3) (p4) (p5) (p6) (p7) (p8) (p9) (p10) (p11) (p12) (p13) (p14) (r33.fst.1) (r33.fst.snd.1) (r33.fst.snd.snd.1) (r33.fst.snd.snd.2) (p19)
          else
            bif Decidable.decide (p1 = (↑(nat_lit 1) : Int)) then
              tendrilref07_Turn_L14x7 k (p0) (Go.RowKit.wrap64 (p1 + (1 : Int))) (p2) (p3) (p8) (p9) (p10) (p11) (p12) (p13) (p14) (r33.fst.1) (r33.fst.snd.1) (r33.fst.snd.snd.1) (r33.fst.snd.snd.2) (p15) (p16) (p17) (p18) (p19)
            else
              bif Decidable.decide (p1 = (↑(nat_lit 0) : Int)) then
                tendrilref07_Turn_L14x5 k (p0) (Go.RowKit.wrap64 (p1 + (1 : Int))) (p2) (p3) (p4) (p5) (p6) (p7) (p8) (p9) (p10) (r33.fst.1) (r33.fst.snd.1) (r33.fst.snd.snd.1) (r33.fst.snd.snd.2) (p15) (p16) (p17) (p18) (p19)
              else
                none
        else
          bif Decidable.decide (p1 = (↑(nat_lit 1) : Int)) then
            (tendrilref06_Safe ((p10, p19))).bind fun r34 =>
            (tendrilref05_Reclaim (((p4, p5, p6, p7), r34))).bind fun r35 =>
            bif Decidable.decide (p1 = (↑(nat_lit 2) : Int)) then
              tendrilref07_Turn_L14x5 k (p0) (Go.RowKit.wrap64 (p1 + (1 : Int))) (p2) (p3) (p4) (p5) (p6) (p7) (p8) (p9) (p10) (p11) (p12) (p13) (p14) (r35.fst.1) (r35.fst.snd.1) (r35.fst.snd.snd.1) (r35.fst.snd.snd.2) (p19)
            else
              bif Decidable.decide (p1 = (↑(nat_lit 1) : Int)) then
                tendrilref07_Turn_L14x7 k (p0) (Go.RowKit.wrap64 (p1 + (1 : Int))) (p2) (p3) (p8) (p9) (p10) (p11) (p12) (p13) (p14) (r35.fst.1) (r35.fst.snd.1) (r35.fst.snd.snd.1) (r35.fst.snd.snd.2) (p15) (p16) (p17) (p18) (p19)
              else
                bif Decidable.decide (p1 = (↑(nat_lit 0) : Int)) then
                  tendrilref07_Turn_L14x5 k (p0) (Go.RowKit.wrap64 (p1 + (1 : Int))) (p2) (p3) (p4) (p5) (p6) (p7) (p8) (p9) (p10) (r35.fst.1) (r35.fst.snd.1) (r35.fst.snd.snd.1) (r35.fst.snd.snd.2) (p15) (p16) (p17) (p18) (p19)
                else
                  none
          else
            bif Decidable.decide (p1 = (↑(nat_lit 0) : Int)) then
              (tendrilref06_Safe ((p10, p19))).bind fun r36 =>
              (tendrilref05_Reclaim (((p11, p12, p13, p14), r36))).bind fun r37 =>
              bif Decidable.decide (p1 = (↑(nat_lit 2) : Int)) then
                tendrilref07_Turn_L14x5 k (p0) (Go.RowKit.wrap64 (p1 + (1 : Int))) (p2) (p3) (p4) (p5) (p6) (p7) (p8) (p9) (p10) (p11) (p12) (p13) (p14) (r37.fst.1) (r37.fst.snd.1) (r37.fst.snd.snd.1) (r37.fst.snd.snd.2) (p19)
              else
                bif Decidable.decide (p1 = (↑(nat_lit 1) : Int)) then
                  tendrilref07_Turn_L14x7 k (p0) (Go.RowKit.wrap64 (p1 + (1 : Int))) (p2) (p3) (p8) (p9) (p10) (p11) (p12) (p13) (p14) (r37.fst.1) (r37.fst.snd.1) (r37.fst.snd.snd.1) (r37.fst.snd.snd.2) (p15) (p16) (p17) (p18) (p19)
                else
                  bif Decidable.decide (p1 = (↑(nat_lit 0) : Int)) then
                    tendrilref07_Turn_L14x5 k (p0) (Go.RowKit.wrap64 (p1 + (1 : Int))) (p2) (p3) (p4) (p5) (p6) (p7) (p8) (p9) (p10) (r37.fst.1) (r37.fst.snd.1) (r37.fst.snd.snd.1) (r37.fst.snd.snd.2) (p15) (p16) (p17) (p18) (p19)
                  else
                    none
            else
              none
      else
        tendrilref07_Turn_L14x5 k (p0) (Go.RowKit.wrap64 (p1 + (1 : Int))) (p2) (p3) (p4) (p5) (p6) (p7) (p8) (p9) (p10) (p11) (p12) (p13) (p14) (p15) (p16) (p17) (p18) (p19)
    else
      some (((p2, p3, ((p11, p12, p13, p14), (p4, p5, p6, p7), p15, p16, p17, p18), p8, p19), p0))
def tendrilref07_Turn_L14x6 : Nat → (Bool) → (Int) → (List Int) → (List Int) → (List Int) → (List Int) → (List Int) → (List Int) → (Int) → (Int) → (Int) → (List Int) → (List Int) → (List Int) → (List Int) → (List Int) → (List Int) → (List Int) → (List Int) → (List Int) → Option ((List Int × List Int × ((List Int × List Int × List Int × List Int) × (List Int × List Int × List Int × List Int) × List Int × List Int × List Int × List Int) × Int × List Int) × Bool)
  | 0, _, _, _, _, _, _, _, _, _, _, _, _, _, _, _, _, _, _, _, _ => none
  | k + 1, p0, p1, p2, p3, p4, p5, p6, p7, p8, p9, p10, p11, p12, p13, p14, p15, p16, p17, p18, p19 =>
    bif Decidable.decide (p1 < (3 : Int)) then
      bif p0 then
        bif Decidable.decide (p1 = (↑(nat_lit 2) : Int)) then
          (tendrilref06_Safe ((p10, p19))).bind fun r38 =>
          (tendrilref05_Reclaim (((p4, p5, p6, p7), r38))).bind fun r39 =>
          bif Decidable.decide (p1 = (↑(nat_lit 2) : Int)) then
            tendrilref07_Turn_L14x7 k (p0) (Go.RowKit.wrap64 (p1 + (1 : Int))) (p2) (p3) (p8) (p9) (p10) (p11) (p12) (p13) (p14) (p15) (p16) (p17) (p18) (r39.fst.1) (r39.fst.snd.1) (r39.fst.snd.snd.1) (r39.fst.snd.snd.2) (p19)
          else
            bif Decidable.decide (p1 = (↑(nat_lit 1) : Int)) then
              tendrilref07_Turn_L14x6 k (p0) (Go.RowKit.wrap64 (p1 + (1 : Int))) (p2) (p3) (p4) (p5) (p6) (p7) (p8) (p9) (p10) (p11) (p12) (p13) (p14) (r39.fst.1) (r39.fst.snd.1) (r39.fst.snd.snd.1) (r39.fst.snd.snd.2) (p19)
            else
              bif Decidable.decide (p1 = (↑(nat_lit 0) : Int)) then
                tendrilref07_Turn_L14x6 k (p0) (Go.RowKit.wrap64 (p1 + (1 : Int))) (p2) (p3) (p4) (p5) (p6) (p7) (p8) (p9) (p10) (r39.fst.1) (r39.fst.snd.1) (r39.fst.snd.snd.1) (r39.fst.snd.snd.2) (p15) (p16) (p17) (p18) (p19)
              else
                none
        else
          bif Decidable.decide (p1 = (↑(nat_lit 1) : Int)) then
            (tendrilref06_Safe ((p10, p19))).bind fun r40 =>
            (tendrilref05_Reclaim (((p15, p16, p17, p18), r40))).bind fun r41 =>
            bif Decidable.decide (p1 = (↑(nat_lit 2) : Int)) then
              tendrilref07_Turn_L14x7 k (p0) (Go.RowKit.wrap64 (p1 + (1 : Int))) (p2) (p3) (p8) (p9) (p10) (p11) (p12) (p13) (p14) (p15) (p16) (p17) (p18) (r41.fst.1) (r41.fst.snd.1) (r41.fst.snd.snd.1) (r41.fst.snd.snd.2) (p19)
            else
              bif Decidable.decide (p1 = (↑(nat_lit 1) : Int)) then
                tendrilref07_Turn_L14x6 k (p0) (Go.RowKit.wrap64 (p1 + (1 : Int))) (p2) (p3) (p4) (p5) (p6) (p7) (p8) (p9) (p10) (p11) (p12) (p13) (p14) (r41.fst.1) (r41.fst.snd.1) (r41.fst.snd.snd.1) (r41.fst.snd.snd.2) (p19)
              else
                bif Decidable.decide (p1 = (↑(nat_lit 0) : Int)) then
                  tendrilref07_Turn_L14x6 k (p0) (Go.RowKit.wrap64 (p1 + (1 : Int))) (p2) (p3) (p4) (p5) (p6) (p7) (p8) (p9) (p10) (r41.fst.1) (r41.fst.snd.1) (r41.fst.snd.snd.1) (r41.fst.snd.snd.2) (p15) (p16) (p17) (p18) (p19)
                else
                  none
          else
            bif Decidable.decide (p1 = (↑(nat_lit 0) : Int)) then
              (tendrilref06_Safe ((p10, p19))).bind fun r42 =>
              (tendrilref05_Reclaim (((p11, p12, p13, p14), r42))).bind fun r43 =>
              bif Decidable.decide (p1 = (↑(nat_lit 2) : Int)) then
                tendrilref07_Turn_L14x7 k (p0) (Go.RowKit.wrap64 (p1 + (1 : Int))) (p2) (p3) (p8) (p9) (p10) (p11) (p12) (p13) (p14) (p15) (p16) (p17) (p18) (r43.fst.1) (r43.fst.snd.1) (r43.fst.snd.snd.1) (r43.fst.snd.snd.2) (p19)
              else
                bif Decidable.decide (p1 = (↑(nat_lit 1) : Int)) then
                  tendrilref07_Turn_L14x6 k (p0) (Go.RowKit.wrap64 (p1 + (1 : Int))) (p2) (p3) (p4) (p5) (p6) (p7) (p8) (p9) (p10) (p11) (p12) (p13) (p14) (r43.fst.1) (r43.fst.snd.1) (r43.fst.snd.snd.1) (r43.fst.snd.snd.2) (p19)
                else
                  bif Decidable.decide (p1 = (↑(nat_lit 0) : Int)) then
                    tendrilref07_Turn_L14x6 k (p0) (Go.RowKit.wrap64 (p1 + (1 : Int))) (p2) (p3) (p4) (p5) (p6) (p7) (p8) (p9) (p10) (r43.fst.1) (r43.fst.snd.1) (r43.fst.snd.snd.1) (r43.fst.snd.snd.2) (p15) (p16) (p17) (p18) (p19)
                  else
                    none
            else
              none
      else
        tendrilref07_Turn_L14x6 k (p0) (Go.RowKit.wrap64 (p1 + (1 : Int))) (p2) (p3) (p4) (p5) (p6) (p7) (p8) (p9) (p10) (p11) (p12) (p13) (p14) (p15) (p16) (p17) (p18) (p19)
    else
      some (((p2, p3, ((p11, p12, p13, p14), (p15, p16, p17, p18), p4, p5, p6, p7), p8, p19), p0))
def tendrilref07_Turn_L14x7 : Nat → (Bool) → (Int) → (List Int) → (List Int) → (Int) → (Int) → (Int) → (List Int) → (List Int) → (List Int) → (List Int) → (List Int) → (List Int) → (List Int) → (List Int) → (List Int) → (List Int) → (List Int) → (List Int) → (List Int) → Option ((List Int × List Int × ((List Int × List Int × List Int × List Int) × (List Int × List Int × List Int × List Int) × List Int × List Int × List Int × List Int) × Int × List Int) × Bool)
  | 0, _, _, _, _, _, _, _, _, _, _, _, _, _, _, _, _, _, _, _, _ => none
  | k + 1, p0, p1, p2, p3, p4, p5, p6, p7, p8, p9, p10, p11, p12, p13, p14, p15, p16, p17, p18, p19 =>
    bif Decidable.decide (p1 < (3 : Int)) then
      bif p0 then
        bif Decidable.decide (p1 = (↑(nat_lit 2) : Int)) then
          (tendrilref06_Safe ((p6, p19))).bind fun r44 =>
          (tendrilref05_Reclaim (((p15, p16, p17, p18), r44))).bind fun r45 =>
          bif Decidable.decide (p1 = (↑(nat_lit 2) : Int)) then
            tendrilref07_Turn_L14x7 k (p0) (Go.RowKit.wrap64 (p1 + (1 : Int))) (p2) (p3) (p4) (p5) (p6) (p7) (p8) (p9) (p10) (p11) (p12) (p13) (p14) (r45.fst.1) (r45.fst.snd.1) (r45.fst.snd.snd.1) (r45.fst.snd.snd.2) (p19)
          else
            bif Decidable.decide (p1 = (↑(nat_lit 1) : Int)) then
              tendrilref07_Turn_L14x7 k (p0) (Go.RowKit.wrap64 (p1 + (1 : Int))) (p2) (p3) (p4) (p5) (p6) (p7) (p8) (p9) (p10) (r45.fst.1) (r45.fst.snd.1) (r45.fst.snd.snd.1) (r45.fst.snd.snd.2) (p15) (p16) (p17) (p18) (p19)
            else
              bif Decidable.decide (p1 = (↑(nat_lit 0) : Int)) then
                tendrilref07_Turn_L14x7 k (p0) (Go.RowKit.wrap64 (p1 + (1 : Int))) (p2) (p3) (p4) (p5) (p6) (r45.fst.1) (r45.fst.snd.1) (r45.fst.snd.snd.1) (r45.fst.snd.snd.2) (p11) (p12) (p13) (p14) (p15) (p16) (p17) (p18) (p19)
              else
                none
        else
          bif Decidable.decide (p1 = (↑(nat_lit 1) : Int)) then
            (tendrilref06_Safe ((p6, p19))).bind fun r46 =>
            (tendrilref05_Reclaim (((p11, p12, p13, p14), r46))).bind fun r47 =>
            bif Decidable.decide (p1 = (↑(nat_lit 2) : Int)) then
              tendrilref07_Turn_L14x7 k (p0) (Go.RowKit.wrap64 (p1 + (1 : Int))) (p2) (p3) (p4) (p5) (p6) (p7) (p8) (p9) (p10) (p11) (p12) (p13) (p14) (r47.fst.1) (r47.fst.snd.1) (r47.fst.snd.snd.1) (r47.fst.snd.snd.2) (p19)
            else
              bif Decidable.decide (p1 = (↑(nat_lit 1) : Int)) then
                tendrilref07_Turn_L14x7 k (p0) (Go.RowKit.wrap64 (p1 + (1 : Int))) (p2) (p3) (p4) (p5) (p6) (p7) (p8) (p9) (p10) (r47.fst.1) (r47.fst.snd.1) (r47.fst.snd.snd.1) (r47.fst.snd.snd.2) (p15) (p16) (p17) (p18) (p19)
              else
                bif Decidable.decide (p1 = (↑(nat_lit 0) : Int)) then
                  tendrilref07_Turn_L14x7 k (p0) (Go.RowKit.wrap64 (p1 + (1 : Int))) (p2) (p3) (p4) (p5) (p6) (r47.fst.1) (r47.fst.snd.1) (r47.fst.snd.snd.1) (r47.fst.snd.snd.2) (p11) (p12) (p13) (p14) (p15) (p16) (p17) (p18) (p19)
                else
                  none
          else
            bif Decidable.decide (p1 = (↑(nat_lit 0) : Int)) then
              (tendrilref06_Safe ((p6, p19))).bind fun r48 =>
              (tendrilref05_Reclaim (((p7, p8, p9, p10), r48))).bind fun r49 =>
              bif Decidable.decide (p1 = (↑(nat_lit 2) : Int)) then
                tendrilref07_Turn_L14x7 k (p0) (Go.RowKit.wrap64 (p1 + (1 : Int))) (p2) (p3) (p4) (p5) (p6) (p7) (p8) (p9) (p10) (p11) (p12) (p13) (p14) (r49.fst.1) (r49.fst.snd.1) (r49.fst.snd.snd.1) (r49.fst.snd.snd.2) (p19)
              else
                bif Decidable.decide (p1 = (↑(nat_lit 1) : Int)) then
                  tendrilref07_Turn_L14x7 k (p0) (Go.RowKit.wrap64 (p1 + (1 : Int))) (p2) (p3) (p4) (p5) (p6) (p7) (p8) (p9) (p10) (r49.fst.1) (r49.fst.snd.1) (r49.fst.snd.snd.1) (r49.fst.snd.snd.2) (p15) (p16) (p17) (p18) (p19)
                else
                  bif Decidable.decide (p1 = (↑(nat_lit 0) : Int)) then
                    tendrilref07_Turn_L14x7 k (p0) (Go.RowKit.wrap64 (p1 + (1 : Int))) (p2) (p3) (p4) (p5) (p6) (r49.fst.1) (r49.fst.snd.1) (r49.fst.snd.snd.1) (r49.fst.snd.snd.2) (p11) (p12) (p13) (p14) (p15) (p16) (p17) (p18) (p19)
                  else
                    none
            else
              none
      else
        tendrilref07_Turn_L14x7 k (p0) (Go.RowKit.wrap64 (p1 + (1 : Int))) (p2) (p3) (p4) (p5) (p6) (p7) (p8) (p9) (p10) (p11) (p12) (p13) (p14) (p15) (p16) (p17) (p18) (p19)
    else
      some (((p2, p3, ((p7, p8, p9, p10), (p11, p12, p13, p14), p15, p16, p17, p18), p4, p19), p0))
end
def tendrilref07_Turn_K (K : Nat) (x : List Int × List Int × ((List Int × List Int × List Int × List Int) × (List Int × List Int × List Int × List Int) × List Int × List Int × List Int × List Int) × Int × List Int) : Option ((List Int × List Int × ((List Int × List Int × List Int × List Int) × (List Int × List Int × List Int × List Int) × List Int × List Int × List Int × List Int) × Int × List Int) × Bool) :=
  (tendrilref07_Check ((x.1, x.snd.1, ((x.snd.snd.fst.fst.1, x.snd.snd.fst.fst.snd.1, x.snd.snd.fst.fst.snd.snd.1, x.snd.snd.fst.fst.snd.snd.2), (x.snd.snd.fst.snd.fst.1, x.snd.snd.fst.snd.fst.snd.1, x.snd.snd.fst.snd.fst.snd.snd.1, x.snd.snd.fst.snd.fst.snd.snd.2), x.snd.snd.fst.snd.snd.1, x.snd.snd.fst.snd.snd.snd.1, x.snd.snd.fst.snd.snd.snd.snd.1, x.snd.snd.fst.snd.snd.snd.snd.2), x.snd.snd.snd.1, x.snd.snd.snd.2))).bind fun r0 =>
  bif r0 != (0 : Int) then
    some ((([], [], (([], [], [], []), ([], [], [], []), [], [], [], []), (0 : Int), []), Bool.false))
  else
    (tendrilref06_Turn ((x.snd.snd.snd.1, x.snd.snd.snd.2))).bind fun r1 =>
    tendrilref07_Turn_L14 K (r1.2) ((0 : Int)) (x.1) (x.snd.1) (x.snd.snd.fst.fst.1) (x.snd.snd.fst.fst.snd.1) (x.snd.snd.fst.fst.snd.snd.1) (x.snd.snd.fst.fst.snd.snd.2) (x.snd.snd.fst.snd.fst.1) (x.snd.snd.fst.snd.fst.snd.1) (x.snd.snd.fst.snd.fst.snd.snd.1) (x.snd.snd.fst.snd.fst.snd.snd.2) (x.snd.snd.fst.snd.snd.1) (x.snd.snd.fst.snd.snd.snd.1) (x.snd.snd.fst.snd.snd.snd.snd.1) (x.snd.snd.fst.snd.snd.snd.snd.2) (r1.fst.1) ((0 : Int)) (r1.fst.1) (r1.fst.2)
def tendrilref07_Turn (x : ((List Int) × ((List Int) × ((((List Int) × ((List Int) × ((List Int) × (List Int)))) × (((List Int) × ((List Int) × ((List Int) × (List Int)))) × ((List Int) × ((List Int) × ((List Int) × (List Int)))))) × (Int × (List Int)))))) : Option (((List Int) × ((List Int) × ((((List Int) × ((List Int) × ((List Int) × (List Int)))) × (((List Int) × ((List Int) × ((List Int) × (List Int)))) × ((List Int) × ((List Int) × ((List Int) × (List Int)))))) × (Int × (List Int))))) × Bool) := tendrilref07_Turn_K 2000000 x
def tendrilref07_Turn_S : Sig := ⟨[⟨true, (.pair (.sl .int) (.pair (.sl .int) (.pair (.pair (.pair (.sl .int) (.pair (.sl .int) (.pair (.sl .int) (.sl .int)))) (.pair (.pair (.sl .int) (.pair (.sl .int) (.pair (.sl .int) (.sl .int)))) (.pair (.sl .int) (.pair (.sl .int) (.pair (.sl .int) (.sl .int)))))) (.pair .int (.sl .int)))))⟩], [⟨true, (.pair (.sl .int) (.pair (.sl .int) (.pair (.pair (.pair (.sl .int) (.pair (.sl .int) (.pair (.sl .int) (.sl .int)))) (.pair (.pair (.sl .int) (.pair (.sl .int) (.pair (.sl .int) (.sl .int)))) (.pair (.sl .int) (.pair (.sl .int) (.pair (.sl .int) (.sl .int)))))) (.pair .int (.sl .int)))))⟩, ⟨false, .bool⟩], false, tendrilref07_Turn⟩
/-! tendril/tendrilref07.End -/
def tendrilref07_End (x : (List Int × List Int × ((List Int × List Int × List Int × List Int) × (List Int × List Int × List Int × List Int) × List Int × List Int × List Int × List Int) × Int × List Int) × Int) : Option ((List Int × List Int × ((List Int × List Int × List Int × List Int) × (List Int × List Int × List Int × List Int) × List Int × List Int × List Int × List Int) × Int × List Int) × Int) :=
  (tendrilref07_Check ((x.fst.1, x.fst.snd.1, ((x.fst.snd.snd.fst.fst.1, x.fst.snd.snd.fst.fst.snd.1, x.fst.snd.snd.fst.fst.snd.snd.1, x.fst.snd.snd.fst.fst.snd.snd.2), (x.fst.snd.snd.fst.snd.fst.1, x.fst.snd.snd.fst.snd.fst.snd.1, x.fst.snd.snd.fst.snd.fst.snd.snd.1, x.fst.snd.snd.fst.snd.fst.snd.snd.2), x.fst.snd.snd.fst.snd.snd.1, x.fst.snd.snd.fst.snd.snd.snd.1, x.fst.snd.snd.fst.snd.snd.snd.snd.1, x.fst.snd.snd.fst.snd.snd.snd.snd.2), x.fst.snd.snd.snd.1, x.fst.snd.snd.snd.2))).bind fun r0 =>
  bif r0 != (0 : Int) then
    some ((([], [], (([], [], [], []), ([], [], [], []), [], [], [], []), (0 : Int), []), (1 : Int)))
  else
    (tendrilref06_Unpin (((x.fst.snd.snd.snd.1, x.fst.snd.snd.snd.2), x.2))).bind fun r1 =>
    bif r1.2 != (0 : Int) then
      some ((([], [], (([], [], [], []), ([], [], [], []), [], [], [], []), (0 : Int), []), r1.2))
    else
      (tendrilref07_Turn ((x.fst.1, x.fst.snd.1, ((x.fst.snd.snd.fst.fst.1, x.fst.snd.snd.fst.fst.snd.1, x.fst.snd.snd.fst.fst.snd.snd.1, x.fst.snd.snd.fst.fst.snd.snd.2), (x.fst.snd.snd.fst.snd.fst.1, x.fst.snd.snd.fst.snd.fst.snd.1, x.fst.snd.snd.fst.snd.fst.snd.snd.1, x.fst.snd.snd.fst.snd.fst.snd.snd.2), x.fst.snd.snd.fst.snd.snd.1, x.fst.snd.snd.fst.snd.snd.snd.1, x.fst.snd.snd.fst.snd.snd.snd.snd.1, x.fst.snd.snd.fst.snd.snd.snd.snd.2), r1.fst.1, r1.fst.2))).bind fun r2 =>
      some (((r2.fst.1, r2.fst.snd.1, ((r2.fst.snd.snd.fst.fst.1, r2.fst.snd.snd.fst.fst.snd.1, r2.fst.snd.snd.fst.fst.snd.snd.1, r2.fst.snd.snd.fst.fst.snd.snd.2), (r2.fst.snd.snd.fst.snd.fst.1, r2.fst.snd.snd.fst.snd.fst.snd.1, r2.fst.snd.snd.fst.snd.fst.snd.snd.1, r2.fst.snd.snd.fst.snd.fst.snd.snd.2), r2.fst.snd.snd.fst.snd.snd.1, r2.fst.snd.snd.fst.snd.snd.snd.1, r2.fst.snd.snd.fst.snd.snd.snd.snd.1, r2.fst.snd.snd.fst.snd.snd.snd.snd.2), r2.fst.snd.snd.snd.1, r2.fst.snd.snd.snd.2), (0 : Int)))
def tendrilref07_End_S : Sig := ⟨[⟨true, (.pair (.sl .int) (.pair (.sl .int) (.pair (.pair (.pair (.sl .int) (.pair (.sl .int) (.pair (.sl .int) (.sl .int)))) (.pair (.pair (.sl .int) (.pair (.sl .int) (.pair (.sl .int) (.sl .int)))) (.pair (.sl .int) (.pair (.sl .int) (.pair (.sl .int) (.sl .int)))))) (.pair .int (.sl .int)))))⟩, ⟨false, .int⟩], [⟨true, (.pair (.sl .int) (.pair (.sl .int) (.pair (.pair (.pair (.sl .int) (.pair (.sl .int) (.pair (.sl .int) (.sl .int)))) (.pair (.pair (.sl .int) (.pair (.sl .int) (.pair (.sl .int) (.sl .int)))) (.pair (.sl .int) (.pair (.sl .int) (.pair (.sl .int) (.sl .int)))))) (.pair .int (.sl .int)))))⟩, ⟨false, .int⟩], false, tendrilref07_End⟩
/-! tendril/tendrilref02.Load -/
def tendrilref02_Load (x : List Int × Int) : Option (Int × Int) :=
  bif Decidable.decide (x.2 < (0 : Int)) then
    some (((0 : Int), (1 : Int)))
  else
    bif Decidable.decide ((↑(List.length x.1) : Int) ≤ x.2) then
      some (((0 : Int), (1 : Int)))
    else
      bif Decidable.decide ((0 : Int) ≤ x.2) then
        bif Decidable.decide (x.2 < (↑(List.length x.1) : Int)) then
          some ((List.getD x.1 (Int.toNat x.2) (0 : Int), (0 : Int)))
        else
          none
      else
        none
def tendrilref02_Load_S : Sig := ⟨[⟨false, (.sl .int)⟩, ⟨false, .int⟩], [⟨false, .int⟩, ⟨false, .int⟩], false, tendrilref02_Load⟩
/-! tendril/tendrilref01.Unpack -/
def tendrilref01_Unpack (x : Int) : Option (Int × Int × Int) :=
  bif Decidable.decide (x < (1 : Int)) then
    some (((0 : Int), (0 : Int), (1 : Int)))
  else
    bif Decidable.decide ((1125899906842624 : Int) < x) then
      some (((0 : Int), (0 : Int), (1 : Int)))
    else
      some (((Go.RowKit.wrap64 (x - (1 : Int))).tmod (1024 : Int), Go.RowKit.wrap64 ((Go.RowKit.wrap64 (x - (1 : Int))).tdiv (1024 : Int)), (0 : Int)))
def tendrilref01_Unpack_S : Sig := ⟨[⟨false, .int⟩], [⟨false, .int⟩, ⟨false, .int⟩, ⟨false, .int⟩], false, tendrilref01_Unpack⟩
/-! tendril/tendrilref03.Field -/
def tendrilref03_Field_L14 : Nat → (Int) → (Int) → (Int) → (Int) → (Int) → (Int) → (Int) → (Int) → (Int) → (Int) → (Int) → Option (Int × Int)
  | 0, _, _, _, _, _, _, _, _, _, _, _ => none
  | k + 1, p0, p1, p2, p3, p4, p5, p6, p7, p8, p9, p10 =>
    bif Decidable.decide (p5 < p0) then
      (tendrilref03_Cap (((p6, p7, p8, p9, p10), p5))).bind fun r2 =>
      tendrilref03_Field_L14 k (p0) (p1) (p2) (p3) (Go.RowKit.wrap64 (p4 + Go.RowKit.wrap64 (r2.1 * r2.2))) (Go.RowKit.wrap64 (p5 + (1 : Int))) (p6) (p7) (p8) (p9) (p10)
    else
      some ((Go.RowKit.wrap64 (Go.RowKit.wrap64 (p4 + Go.RowKit.wrap64 (p3 * p1)) + p2), (0 : Int)))
def tendrilref03_Field_K (K : Nat) (x : (Int × Int × Int × Int × Int) × Int × Int × Int) : Option (Int × Int) :=
  (tendrilref03_Cap (((x.fst.1, x.fst.snd.1, x.fst.snd.snd.1, x.fst.snd.snd.snd.1, x.fst.snd.snd.snd.2), x.snd.1))).bind fun r0 =>
  (tendrilref03_Check ((x.fst.1, x.fst.snd.1, x.fst.snd.snd.1, x.fst.snd.snd.snd.1, x.fst.snd.snd.snd.2))).bind fun r1 =>
  bif r1 != (0 : Int) then
    some (((0 : Int), (1 : Int)))
  else
    bif Decidable.decide (x.snd.snd.1 < (0 : Int)) then
      some (((0 : Int), (1 : Int)))
    else
      bif Decidable.decide (r0.1 ≤ x.snd.snd.1) then
        some (((0 : Int), (1 : Int)))
      else
        bif Decidable.decide (x.snd.snd.2 < (0 : Int)) then
          some (((0 : Int), (1 : Int)))
        else
          bif Decidable.decide (r0.2 ≤ x.snd.snd.2) then
            some (((0 : Int), (1 : Int)))
          else
            tendrilref03_Field_L14 K (x.snd.1) (x.snd.snd.1) (x.snd.snd.2) (r0.2) (Go.RowKit.wrap64 (Go.RowKit.wrap64 ((2 : Int) + x.fst.snd.snd.snd.1) + x.fst.snd.snd.snd.2)) ((1 : Int)) (x.fst.1) (x.fst.snd.1) (x.fst.snd.snd.1) (x.fst.snd.snd.snd.1) (x.fst.snd.snd.snd.2)
def tendrilref03_Field (x : (Int × (Int × (Int × (Int × Int)))) × Int × Int × Int) : Option (Int × Int) := tendrilref03_Field_K 2000000 x
def tendrilref03_Field_S : Sig := ⟨[⟨true, (.pair .int (.pair .int (.pair .int (.pair .int .int))))⟩, ⟨false, .int⟩, ⟨false, .int⟩, ⟨false, .int⟩], [⟨false, .int⟩, ⟨false, .int⟩], false, tendrilref03_Field⟩
/-! tendril/tendrilref14.at -/
def tendrilref14_at (x : (Int × Int × Int × Int × Int) × List Int × Int × Int × Int) : Option (Int × Int) :=
  (tendrilref01_Unpack (x.snd.snd.snd.1)).bind fun r0 =>
  (tendrilref03_Check ((x.fst.1, x.fst.snd.1, x.fst.snd.snd.1, x.fst.snd.snd.snd.1, x.fst.snd.snd.snd.2))).bind fun r1 =>
  bif r1 != (0 : Int) then
    some (((0 : Int), (1 : Int)))
  else
    (tendrilref03_Size ((x.fst.1, x.fst.snd.1, x.fst.snd.snd.1, x.fst.snd.snd.snd.1, x.fst.snd.snd.snd.2))).bind fun r2 =>
    bif (↑(List.length x.snd.1) : Int) != r2 then
      some (((0 : Int), (1 : Int)))
    else
      bif r0.snd.2 != (0 : Int) then
        some (((0 : Int), (1 : Int)))
      else
        (tendrilref03_Field (((x.fst.1, x.fst.snd.1, x.fst.snd.snd.1, x.fst.snd.snd.snd.1, x.fst.snd.snd.snd.2), x.snd.snd.1, r0.1, x.snd.snd.snd.2))).bind fun r3 =>
        some ((r3.1, r3.2))
def tendrilref14_at_S : Sig := ⟨[⟨true, (.pair .int (.pair .int (.pair .int (.pair .int .int))))⟩, ⟨false, (.sl .int)⟩, ⟨false, .int⟩, ⟨false, .int⟩, ⟨false, .int⟩], [⟨false, .int⟩, ⟨false, .int⟩], false, tendrilref14_at⟩
/-! tendril/tendrilref14.Field -/
def tendrilref14_Field (x : (Int × Int × Int × Int × Int) × List Int × Int × Int × Int) : Option (Int × Int) :=
  (tendrilref14_at (((x.fst.1, x.fst.snd.1, x.fst.snd.snd.1, x.fst.snd.snd.snd.1, x.fst.snd.snd.snd.2), x.snd.1, x.snd.snd.1, x.snd.snd.snd.1, x.snd.snd.snd.2))).bind fun r0 =>
  bif r0.2 != (0 : Int) then
    some (((0 : Int), r0.2))
  else
    bif Decidable.decide ((0 : Int) ≤ r0.1) then
      bif Decidable.decide (r0.1 < (↑(List.length x.snd.1) : Int)) then
        some ((List.getD x.snd.1 (Int.toNat r0.1) (0 : Int), (0 : Int)))
      else
        none
    else
      none
def tendrilref14_Field_S : Sig := ⟨[⟨true, (.pair .int (.pair .int (.pair .int (.pair .int .int))))⟩, ⟨false, (.sl .int)⟩, ⟨false, .int⟩, ⟨false, .int⟩, ⟨false, .int⟩], [⟨false, .int⟩, ⟨false, .int⟩], false, tendrilref14_Field⟩
/-! tendril/tendrilref02.Store -/
def tendrilref02_Store (x : List Int × Int × Int) : Option (List Int × Int) :=
  bif Decidable.decide (x.snd.1 < (0 : Int)) then
    some (([], (1 : Int)))
  else
    bif Decidable.decide ((↑(List.length x.1) : Int) ≤ x.snd.1) then
      some (([], (1 : Int)))
    else
      bif Decidable.decide ((0 : Nat) + List.length x.1 ≤ (1000000 : Nat)) then
        bif Decidable.decide ((0 : Int) ≤ x.snd.1) then
          bif Decidable.decide (x.snd.1 < (↑(List.length x.1) : Int)) then
            some ((List.set x.1 (Int.toNat x.snd.1) x.snd.2, (0 : Int)))
          else
            none
        else
          none
      else
        none
def tendrilref02_Store_S : Sig := ⟨[⟨false, (.sl .int)⟩, ⟨false, .int⟩, ⟨false, .int⟩], [⟨false, (.sl .int)⟩, ⟨false, .int⟩], true, tendrilref02_Store⟩
/-! tendril/tendrilref14.Put -/
def tendrilref14_Put (x : (Int × Int × Int × Int × Int) × List Int × Int × Int × Int × Int) : Option (List Int × Int) :=
  (tendrilref14_at (((x.fst.1, x.fst.snd.1, x.fst.snd.snd.1, x.fst.snd.snd.snd.1, x.fst.snd.snd.snd.2), x.snd.1, x.snd.snd.1, x.snd.snd.snd.1, x.snd.snd.snd.snd.1))).bind fun r0 =>
  bif r0.2 != (0 : Int) then
    some (([], r0.2))
  else
    (tendrilref02_Store ((x.snd.1, r0.1, x.snd.snd.snd.snd.2))).bind fun r1 =>
    some ((r1.1, r1.2))
def tendrilref14_Put_S : Sig := ⟨[⟨true, (.pair .int (.pair .int (.pair .int (.pair .int .int))))⟩, ⟨false, (.sl .int)⟩, ⟨false, .int⟩, ⟨false, .int⟩, ⟨false, .int⟩, ⟨false, .int⟩], [⟨false, (.sl .int)⟩, ⟨false, .int⟩], true, tendrilref14_Put⟩
/-! tendril/tendrilref08.Tryz -/
def tendrilref08_Try (x : Int) : Option (Int × Bool) :=
  (tendrilref08_Check (x)).bind fun r0 =>
  bif r0 != (0 : Int) then
    some ((x, Bool.false))
  else
    bif Int.tmod x (2 : Int) == (1 : Int) then
      some ((x, Bool.false))
    else
      bif x == (4611686018427387904 : Int) then
        some ((x, Bool.false))
      else
        some ((Go.RowKit.wrap64 (x + (1 : Int)), Bool.true))
def tendrilref08_Try_S : Sig := ⟨[⟨false, .int⟩], [⟨false, .int⟩, ⟨false, .bool⟩], false, tendrilref08_Try⟩
/-! tendril/tendrilref16.set -/
def tendrilref16_set (x : (List Int × List Int × ((List Int × List Int × List Int × List Int) × (List Int × List Int × List Int × List Int) × List Int × List Int × List Int × List Int) × Int × List Int) × Int × Int) : Option (List Int × List Int × ((List Int × List Int × List Int × List Int) × (List Int × List Int × List Int × List Int) × List Int × List Int × List Int × List Int) × Int × List Int) :=
  (tendrilref02_Copy (x.fst.snd.1)).bind fun r0 =>
  bif Decidable.decide ((0 : Int) ≤ x.snd.1) then
    bif Decidable.decide (x.snd.1 < (↑(List.length r0) : Int)) then
      some ((x.fst.1, List.set r0 (Int.toNat x.snd.1) x.snd.2, ((x.fst.snd.snd.fst.fst.1, x.fst.snd.snd.fst.fst.snd.1, x.fst.snd.snd.fst.fst.snd.snd.1, x.fst.snd.snd.fst.fst.snd.snd.2), (x.fst.snd.snd.fst.snd.fst.1, x.fst.snd.snd.fst.snd.fst.snd.1, x.fst.snd.snd.fst.snd.fst.snd.snd.1, x.fst.snd.snd.fst.snd.fst.snd.snd.2), x.fst.snd.snd.fst.snd.snd.1, x.fst.snd.snd.fst.snd.snd.snd.1, x.fst.snd.snd.fst.snd.snd.snd.snd.1, x.fst.snd.snd.fst.snd.snd.snd.snd.2), x.fst.snd.snd.snd.1, x.fst.snd.snd.snd.2))
    else
      none
  else
    none
def tendrilref16_set_S : Sig := ⟨[⟨true, (.pair (.sl .int) (.pair (.sl .int) (.pair (.pair (.pair (.sl .int) (.pair (.sl .int) (.pair (.sl .int) (.sl .int)))) (.pair (.pair (.sl .int) (.pair (.sl .int) (.pair (.sl .int) (.sl .int)))) (.pair (.sl .int) (.pair (.sl .int) (.pair (.sl .int) (.sl .int)))))) (.pair .int (.sl .int)))))⟩, ⟨false, .int⟩, ⟨false, .int⟩], [⟨true, (.pair (.sl .int) (.pair (.sl .int) (.pair (.pair (.pair (.sl .int) (.pair (.sl .int) (.pair (.sl .int) (.sl .int)))) (.pair (.pair (.sl .int) (.pair (.sl .int) (.pair (.sl .int) (.sl .int)))) (.pair (.sl .int) (.pair (.sl .int) (.pair (.sl .int) (.sl .int)))))) (.pair .int (.sl .int)))))⟩], false, tendrilref16_set⟩
/-! tendril/tendrilref08.Free -/
def tendrilref08_Free (x : Int) : Option (Int × Int) :=
  (tendrilref08_Check (x)).bind fun r0 =>
  bif r0 != (0 : Int) then
    some (((0 : Int), (1 : Int)))
  else
    bif Int.tmod x (2 : Int) == (0 : Int) then
      some (((0 : Int), (2 : Int)))
    else
      some ((Go.RowKit.wrap64 (x + (1 : Int)), (0 : Int)))
def tendrilref08_Free_S : Sig := ⟨[⟨false, .int⟩], [⟨false, .int⟩, ⟨false, .int⟩], false, tendrilref08_Free⟩
/-! tendril/tendrilref07.kind -/
def tendrilref07_kind (x : Int) : Option (Bool) :=
  bif Decidable.decide ((1 : Int) ≤ x) then
    some (Decidable.decide (x ≤ (3 : Int)))
  else
    some (Bool.false)
def tendrilref07_kind_S : Sig := ⟨[⟨false, .int⟩], [⟨false, .bool⟩], false, tendrilref07_kind⟩
/-! tendril/tendrilref01.Pack -/
def tendrilref01_Pack (x : Int × Int) : Option (Int × Int) :=
  bif Decidable.decide (x.1 < (0 : Int)) then
    some (((0 : Int), (1 : Int)))
  else
    bif Decidable.decide ((1023 : Int) < x.1) then
      some (((0 : Int), (1 : Int)))
    else
      bif Decidable.decide (x.2 < (0 : Int)) then
        some (((0 : Int), (1 : Int)))
      else
        bif Decidable.decide ((1099511627776 : Int) ≤ x.2) then
          some (((0 : Int), (1 : Int)))
        else
          some ((Go.RowKit.wrap64 (Go.RowKit.wrap64 ((1 : Int) + Go.RowKit.wrap64 ((1024 : Int) * x.2)) + x.1), (0 : Int)))
def tendrilref01_Pack_S : Sig := ⟨[⟨false, .int⟩, ⟨false, .int⟩], [⟨false, .int⟩, ⟨false, .int⟩], false, tendrilref01_Pack⟩
/-! tendril/tendrilref05.Take -/
def tendrilref05_Take (x : List Int × List Int × List Int × List Int) : Option ((List Int × List Int × List Int × List Int) × Int × Int) :=
  (tendrilref05_Check ((x.1, x.snd.1, x.snd.snd.1, x.snd.snd.2))).bind fun r0 =>
  bif r0 != (0 : Int) then
    some ((([], [], [], []), (0 : Int), r0))
  else
    bif (↑(List.length x.snd.snd.2) : Int) == (0 : Int) then
      some ((([], [], [], []), (0 : Int), (3 : Int)))
    else
      (tendrilref05_Copy ((x.1, x.snd.1, x.snd.snd.1, x.snd.snd.2))).bind fun r1 =>
      bif Decidable.decide ((0 : Int) < (↑(List.length r1.snd.snd.2) : Int)) then
        bif Decidable.decide ((1 : Int) ≤ (↑(List.length r1.snd.snd.2) : Int)) then
          bif Decidable.decide ((0 : Int) ≤ List.getD r1.snd.snd.2 (Int.toNat (0 : Int)) (0 : Int)) then
            bif Decidable.decide (List.getD r1.snd.snd.2 (Int.toNat (0 : Int)) (0 : Int) < (↑(List.length r1.snd.1) : Int)) then
              bif Decidable.decide ((0 : Int) ≤ List.getD r1.snd.snd.2 (Int.toNat (0 : Int)) (0 : Int)) then
                bif Decidable.decide (List.getD r1.snd.snd.2 (Int.toNat (0 : Int)) (0 : Int) < (↑(List.length x.1) : Int)) then
                  (tendrilref01_Pack ((List.getD r1.snd.snd.2 (Int.toNat (0 : Int)) (0 : Int), List.getD x.1 (List.getD r1.snd.snd.2 (Int.toNat (0 : Int)) (0 : Int)).toNat (0 : Int)))).bind fun r2 =>
                  some (((r1.1, List.set r1.snd.1 (List.getD r1.snd.snd.2 (Int.toNat (0 : Int)) (0 : Int)).toNat (1 : Int), r1.snd.snd.1, List.drop (Int.toNat (1 : Int)) (List.take (List.length r1.snd.snd.2) r1.snd.snd.2)), r2.1, (0 : Int)))
                else
                  none
              else
                none
            else
              none
          else
            none
        else
          none
      else
        none
def tendrilref05_Take_S : Sig := ⟨[⟨true, (.pair (.sl .int) (.pair (.sl .int) (.pair (.sl .int) (.sl .int))))⟩], [⟨true, (.pair (.sl .int) (.pair (.sl .int) (.pair (.sl .int) (.sl .int))))⟩, ⟨false, .int⟩, ⟨false, .int⟩], true, tendrilref05_Take⟩
/-! tendril/tendrilref07.Take -/
def tendrilref07_Take (x : (List Int × List Int × ((List Int × List Int × List Int × List Int) × (List Int × List Int × List Int × List Int) × List Int × List Int × List Int × List Int) × Int × List Int) × Int) : Option ((List Int × List Int × ((List Int × List Int × List Int × List Int) × (List Int × List Int × List Int × List Int) × List Int × List Int × List Int × List Int) × Int × List Int) × Int × Int) :=
  (tendrilref07_Check ((x.fst.1, x.fst.snd.1, ((x.fst.snd.snd.fst.fst.1, x.fst.snd.snd.fst.fst.snd.1, x.fst.snd.snd.fst.fst.snd.snd.1, x.fst.snd.snd.fst.fst.snd.snd.2), (x.fst.snd.snd.fst.snd.fst.1, x.fst.snd.snd.fst.snd.fst.snd.1, x.fst.snd.snd.fst.snd.fst.snd.snd.1, x.fst.snd.snd.fst.snd.fst.snd.snd.2), x.fst.snd.snd.fst.snd.snd.1, x.fst.snd.snd.fst.snd.snd.snd.1, x.fst.snd.snd.fst.snd.snd.snd.snd.1, x.fst.snd.snd.fst.snd.snd.snd.snd.2), x.fst.snd.snd.snd.1, x.fst.snd.snd.snd.2))).bind fun r0 =>
  bif r0 != (0 : Int) then
    some ((([], [], (([], [], [], []), ([], [], [], []), [], [], [], []), (0 : Int), []), (0 : Int), (1 : Int)))
  else
    (tendrilref07_kind (x.2)).bind fun r1 =>
    bif !r1 then
      some ((([], [], (([], [], [], []), ([], [], [], []), [], [], [], []), (0 : Int), []), (0 : Int), (1 : Int)))
    else
      bif Decidable.decide (Go.RowKit.wrap64 (x.2 - (1 : Int)) = (↑(nat_lit 2) : Int)) then
        (tendrilref05_Take ((x.fst.snd.snd.fst.snd.snd.1, x.fst.snd.snd.fst.snd.snd.snd.1, x.fst.snd.snd.fst.snd.snd.snd.snd.1, x.fst.snd.snd.fst.snd.snd.snd.snd.2))).bind fun r2 =>
        bif r2.snd.2 != (0 : Int) then
          some ((([], [], (([], [], [], []), ([], [], [], []), [], [], [], []), (0 : Int), []), (0 : Int), r2.snd.2))
        else
          bif Decidable.decide (Go.RowKit.wrap64 (x.2 - (1 : Int)) = (↑(nat_lit 2) : Int)) then
            some (((x.fst.1, x.fst.snd.1, ((x.fst.snd.snd.fst.fst.1, x.fst.snd.snd.fst.fst.snd.1, x.fst.snd.snd.fst.fst.snd.snd.1, x.fst.snd.snd.fst.fst.snd.snd.2), (x.fst.snd.snd.fst.snd.fst.1, x.fst.snd.snd.fst.snd.fst.snd.1, x.fst.snd.snd.fst.snd.fst.snd.snd.1, x.fst.snd.snd.fst.snd.fst.snd.snd.2), r2.fst.1, r2.fst.snd.1, r2.fst.snd.snd.1, r2.fst.snd.snd.2), x.fst.snd.snd.snd.1, x.fst.snd.snd.snd.2), r2.snd.1, (0 : Int)))
          else
            bif Decidable.decide (Go.RowKit.wrap64 (x.2 - (1 : Int)) = (↑(nat_lit 1) : Int)) then
              some (((x.fst.1, x.fst.snd.1, ((x.fst.snd.snd.fst.fst.1, x.fst.snd.snd.fst.fst.snd.1, x.fst.snd.snd.fst.fst.snd.snd.1, x.fst.snd.snd.fst.fst.snd.snd.2), (r2.fst.1, r2.fst.snd.1, r2.fst.snd.snd.1, r2.fst.snd.snd.2), x.fst.snd.snd.fst.snd.snd.1, x.fst.snd.snd.fst.snd.snd.snd.1, x.fst.snd.snd.fst.snd.snd.snd.snd.1, x.fst.snd.snd.fst.snd.snd.snd.snd.2), x.fst.snd.snd.snd.1, x.fst.snd.snd.snd.2), r2.snd.1, (0 : Int)))
            else
              bif Decidable.decide (Go.RowKit.wrap64 (x.2 - (1 : Int)) = (↑(nat_lit 0) : Int)) then
                some (((x.fst.1, x.fst.snd.1, ((r2.fst.1, r2.fst.snd.1, r2.fst.snd.snd.1, r2.fst.snd.snd.2), (x.fst.snd.snd.fst.snd.fst.1, x.fst.snd.snd.fst.snd.fst.snd.1, x.fst.snd.snd.fst.snd.fst.snd.snd.1, x.fst.snd.snd.fst.snd.fst.snd.snd.2), x.fst.snd.snd.fst.snd.snd.1, x.fst.snd.snd.fst.snd.snd.snd.1, x.fst.snd.snd.fst.snd.snd.snd.snd.1, x.fst.snd.snd.fst.snd.snd.snd.snd.2), x.fst.snd.snd.snd.1, x.fst.snd.snd.snd.2), r2.snd.1, (0 : Int)))
              else
                none
      else
        bif Decidable.decide (Go.RowKit.wrap64 (x.2 - (1 : Int)) = (↑(nat_lit 1) : Int)) then
          (tendrilref05_Take ((x.fst.snd.snd.fst.snd.fst.1, x.fst.snd.snd.fst.snd.fst.snd.1, x.fst.snd.snd.fst.snd.fst.snd.snd.1, x.fst.snd.snd.fst.snd.fst.snd.snd.2))).bind fun r3 =>
          bif r3.snd.2 != (0 : Int) then
            some ((([], [], (([], [], [], []), ([], [], [], []), [], [], [], []), (0 : Int), []), (0 : Int), r3.snd.2))
          else
            bif Decidable.decide (Go.RowKit.wrap64 (x.2 - (1 : Int)) = (↑(nat_lit 2) : Int)) then
              some (((x.fst.1, x.fst.snd.1, ((x.fst.snd.snd.fst.fst.1, x.fst.snd.snd.fst.fst.snd.1, x.fst.snd.snd.fst.fst.snd.snd.1, x.fst.snd.snd.fst.fst.snd.snd.2), (x.fst.snd.snd.fst.snd.fst.1, x.fst.snd.snd.fst.snd.fst.snd.1, x.fst.snd.snd.fst.snd.fst.snd.snd.1, x.fst.snd.snd.fst.snd.fst.snd.snd.2), r3.fst.1, r3.fst.snd.1, r3.fst.snd.snd.1, r3.fst.snd.snd.2), x.fst.snd.snd.snd.1, x.fst.snd.snd.snd.2), r3.snd.1, (0 : Int)))
            else
              bif Decidable.decide (Go.RowKit.wrap64 (x.2 - (1 : Int)) = (↑(nat_lit 1) : Int)) then
                some (((x.fst.1, x.fst.snd.1, ((x.fst.snd.snd.fst.fst.1, x.fst.snd.snd.fst.fst.snd.1, x.fst.snd.snd.fst.fst.snd.snd.1, x.fst.snd.snd.fst.fst.snd.snd.2), (r3.fst.1, r3.fst.snd.1, r3.fst.snd.snd.1, r3.fst.snd.snd.2), x.fst.snd.snd.fst.snd.snd.1, x.fst.snd.snd.fst.snd.snd.snd.1, x.fst.snd.snd.fst.snd.snd.snd.snd.1, x.fst.snd.snd.fst.snd.snd.snd.snd.2), x.fst.snd.snd.snd.1, x.fst.snd.snd.snd.2), r3.snd.1, (0 : Int)))
              else
                bif Decidable.decide (Go.RowKit.wrap64 (x.2 - (1 : Int)) = (↑(nat_lit 0) : Int)) then
                  some (((x.fst.1, x.fst.snd.1, ((r3.fst.1, r3.fst.snd.1, r3.fst.snd.snd.1, r3.fst.snd.snd.2), (x.fst.snd.snd.fst.snd.fst.1, x.fst.snd.snd.fst.snd.fst.snd.1, x.fst.snd.snd.fst.snd.fst.snd.snd.1, x.fst.snd.snd.fst.snd.fst.snd.snd.2), x.fst.snd.snd.fst.snd.snd.1, x.fst.snd.snd.fst.snd.snd.snd.1, x.fst.snd.snd.fst.snd.snd.snd.snd.1, x.fst.snd.snd.fst.snd.snd.snd.snd.2), x.fst.snd.snd.snd.1, x.fst.snd.snd.snd.2), r3.snd.1, (0 : Int)))
                else
                  none
        else
          bif Decidable.decide (Go.RowKit.wrap64 (x.2 - (1 : Int)) = (↑(nat_lit 0) : Int)) then
            (tendrilref05_Take ((x.fst.snd.snd.fst.fst.1, x.fst.snd.snd.fst.fst.snd.1, x.fst.snd.snd.fst.fst.snd.snd.1, x.fst.snd.snd.fst.fst.snd.snd.2))).bind fun r4 =>
            bif r4.snd.2 != (0 : Int) then
              some ((([], [], (([], [], [], []), ([], [], [], []), [], [], [], []), (0 : Int), []), (0 : Int), r4.snd.2))
            else
              bif Decidable.decide (Go.RowKit.wrap64 (x.2 - (1 : Int)) = (↑(nat_lit 2) : Int)) then
                some (((x.fst.1, x.fst.snd.1, ((x.fst.snd.snd.fst.fst.1, x.fst.snd.snd.fst.fst.snd.1, x.fst.snd.snd.fst.fst.snd.snd.1, x.fst.snd.snd.fst.fst.snd.snd.2), (x.fst.snd.snd.fst.snd.fst.1, x.fst.snd.snd.fst.snd.fst.snd.1, x.fst.snd.snd.fst.snd.fst.snd.snd.1, x.fst.snd.snd.fst.snd.fst.snd.snd.2), r4.fst.1, r4.fst.snd.1, r4.fst.snd.snd.1, r4.fst.snd.snd.2), x.fst.snd.snd.snd.1, x.fst.snd.snd.snd.2), r4.snd.1, (0 : Int)))
              else
                bif Decidable.decide (Go.RowKit.wrap64 (x.2 - (1 : Int)) = (↑(nat_lit 1) : Int)) then
                  some (((x.fst.1, x.fst.snd.1, ((x.fst.snd.snd.fst.fst.1, x.fst.snd.snd.fst.fst.snd.1, x.fst.snd.snd.fst.fst.snd.snd.1, x.fst.snd.snd.fst.fst.snd.snd.2), (r4.fst.1, r4.fst.snd.1, r4.fst.snd.snd.1, r4.fst.snd.snd.2), x.fst.snd.snd.fst.snd.snd.1, x.fst.snd.snd.fst.snd.snd.snd.1, x.fst.snd.snd.fst.snd.snd.snd.snd.1, x.fst.snd.snd.fst.snd.snd.snd.snd.2), x.fst.snd.snd.snd.1, x.fst.snd.snd.snd.2), r4.snd.1, (0 : Int)))
                else
                  bif Decidable.decide (Go.RowKit.wrap64 (x.2 - (1 : Int)) = (↑(nat_lit 0) : Int)) then
                    some (((x.fst.1, x.fst.snd.1, ((r4.fst.1, r4.fst.snd.1, r4.fst.snd.snd.1, r4.fst.snd.snd.2), (x.fst.snd.snd.fst.snd.fst.1, x.fst.snd.snd.fst.snd.fst.snd.1, x.fst.snd.snd.fst.snd.fst.snd.snd.1, x.fst.snd.snd.fst.snd.fst.snd.snd.2), x.fst.snd.snd.fst.snd.snd.1, x.fst.snd.snd.fst.snd.snd.snd.1, x.fst.snd.snd.fst.snd.snd.snd.snd.1, x.fst.snd.snd.fst.snd.snd.snd.snd.2), x.fst.snd.snd.snd.1, x.fst.snd.snd.snd.2), r4.snd.1, (0 : Int)))
                  else
                    none
          else
            none
def tendrilref07_Take_S : Sig := ⟨[⟨true, (.pair (.sl .int) (.pair (.sl .int) (.pair (.pair (.pair (.sl .int) (.pair (.sl .int) (.pair (.sl .int) (.sl .int)))) (.pair (.pair (.sl .int) (.pair (.sl .int) (.pair (.sl .int) (.sl .int)))) (.pair (.sl .int) (.pair (.sl .int) (.pair (.sl .int) (.sl .int)))))) (.pair .int (.sl .int)))))⟩, ⟨false, .int⟩], [⟨true, (.pair (.sl .int) (.pair (.sl .int) (.pair (.pair (.pair (.sl .int) (.pair (.sl .int) (.pair (.sl .int) (.sl .int)))) (.pair (.pair (.sl .int) (.pair (.sl .int) (.pair (.sl .int) (.sl .int)))) (.pair (.sl .int) (.pair (.sl .int) (.pair (.sl .int) (.sl .int)))))) (.pair .int (.sl .int)))))⟩, ⟨false, .int⟩, ⟨false, .int⟩], false, tendrilref07_Take⟩
/-! tendril/tendrilref05.Retire -/
def tendrilref05_Retire (x : (List Int × List Int × List Int × List Int) × Int × Int) : Option ((List Int × List Int × List Int × List Int) × Int) :=
  (tendrilref05_Check ((x.fst.1, x.fst.snd.1, x.fst.snd.snd.1, x.fst.snd.snd.2))).bind fun r0 =>
  bif r0 != (0 : Int) then
    some ((([], [], [], []), r0))
  else
    (tendrilref01_Unpack (x.snd.1)).bind fun r1 =>
    bif r1.snd.2 != (0 : Int) then
      some ((([], [], [], []), (1 : Int)))
    else
      bif Decidable.decide ((↑(List.length x.fst.1) : Int) ≤ r1.1) then
        some ((([], [], [], []), (1 : Int)))
      else
        bif Decidable.decide ((0 : Int) ≤ r1.1) then
          bif Decidable.decide (r1.1 < (↑(List.length x.fst.snd.1) : Int)) then
            bif List.getD x.fst.snd.1 (Int.toNat r1.1) (0 : Int) != (1 : Int) then
              some ((([], [], [], []), (2 : Int)))
            else
              bif Decidable.decide ((0 : Int) ≤ r1.1) then
                bif Decidable.decide (r1.1 < (↑(List.length x.fst.1) : Int)) then
                  bif List.getD x.fst.1 (Int.toNat r1.1) (0 : Int) != r1.snd.1 then
                    some ((([], [], [], []), (2 : Int)))
                  else
                    (tendrilref05_Copy ((x.fst.1, x.fst.snd.1, x.fst.snd.snd.1, x.fst.snd.snd.2))).bind fun r2 =>
                    bif Decidable.decide ((0 : Int) ≤ r1.1) then
                      bif Decidable.decide (r1.1 < (↑(List.length r2.snd.1) : Int)) then
                        bif Decidable.decide ((0 : Int) ≤ r1.1) then
                          bif Decidable.decide (r1.1 < (↑(List.length r2.snd.snd.1) : Int)) then
                            some (((r2.1, List.set r2.snd.1 (Int.toNat r1.1) (2 : Int), List.set r2.snd.snd.1 (Int.toNat r1.1) x.snd.2, r2.snd.snd.2), (0 : Int)))
                          else
                            none
                        else
                          none
                      else
                        none
                    else
                      none
                else
                  none
              else
                none
          else
            none
        else
          none
def tendrilref05_Retire_S : Sig := ⟨[⟨true, (.pair (.sl .int) (.pair (.sl .int) (.pair (.sl .int) (.sl .int))))⟩, ⟨false, .int⟩, ⟨false, .int⟩], [⟨true, (.pair (.sl .int) (.pair (.sl .int) (.pair (.sl .int) (.sl .int))))⟩, ⟨false, .int⟩], true, tendrilref05_Retire⟩
/-! tendril/tendrilref07.Retire -/
def tendrilref07_Retire (x : (List Int × List Int × ((List Int × List Int × List Int × List Int) × (List Int × List Int × List Int × List Int) × List Int × List Int × List Int × List Int) × Int × List Int) × Int × Int) : Option ((List Int × List Int × ((List Int × List Int × List Int × List Int) × (List Int × List Int × List Int × List Int) × List Int × List Int × List Int × List Int) × Int × List Int) × Int) :=
  (tendrilref07_Check ((x.fst.1, x.fst.snd.1, ((x.fst.snd.snd.fst.fst.1, x.fst.snd.snd.fst.fst.snd.1, x.fst.snd.snd.fst.fst.snd.snd.1, x.fst.snd.snd.fst.fst.snd.snd.2), (x.fst.snd.snd.fst.snd.fst.1, x.fst.snd.snd.fst.snd.fst.snd.1, x.fst.snd.snd.fst.snd.fst.snd.snd.1, x.fst.snd.snd.fst.snd.fst.snd.snd.2), x.fst.snd.snd.fst.snd.snd.1, x.fst.snd.snd.fst.snd.snd.snd.1, x.fst.snd.snd.fst.snd.snd.snd.snd.1, x.fst.snd.snd.fst.snd.snd.snd.snd.2), x.fst.snd.snd.snd.1, x.fst.snd.snd.snd.2))).bind fun r0 =>
  bif r0 != (0 : Int) then
    some ((([], [], (([], [], [], []), ([], [], [], []), [], [], [], []), (0 : Int), []), (1 : Int)))
  else
    (tendrilref07_kind (x.snd.1)).bind fun r1 =>
    bif !r1 then
      some ((([], [], (([], [], [], []), ([], [], [], []), [], [], [], []), (0 : Int), []), (1 : Int)))
    else
      bif Decidable.decide (Go.RowKit.wrap64 (x.snd.1 - (1 : Int)) = (↑(nat_lit 2) : Int)) then
        (tendrilref05_Retire (((x.fst.snd.snd.fst.snd.snd.1, x.fst.snd.snd.fst.snd.snd.snd.1, x.fst.snd.snd.fst.snd.snd.snd.snd.1, x.fst.snd.snd.fst.snd.snd.snd.snd.2), x.snd.2, x.fst.snd.snd.snd.1))).bind fun r2 =>
        bif r2.2 != (0 : Int) then
          some ((([], [], (([], [], [], []), ([], [], [], []), [], [], [], []), (0 : Int), []), r2.2))
        else
          bif Decidable.decide (Go.RowKit.wrap64 (x.snd.1 - (1 : Int)) = (↑(nat_lit 2) : Int)) then
            some (((x.fst.1, x.fst.snd.1, ((x.fst.snd.snd.fst.fst.1, x.fst.snd.snd.fst.fst.snd.1, x.fst.snd.snd.fst.fst.snd.snd.1, x.fst.snd.snd.fst.fst.snd.snd.2), (x.fst.snd.snd.fst.snd.fst.1, x.fst.snd.snd.fst.snd.fst.snd.1, x.fst.snd.snd.fst.snd.fst.snd.snd.1, x.fst.snd.snd.fst.snd.fst.snd.snd.2), r2.fst.1, r2.fst.snd.1, r2.fst.snd.snd.1, r2.fst.snd.snd.2), x.fst.snd.snd.snd.1, x.fst.snd.snd.snd.2), (0 : Int)))
          else
            bif Decidable.decide (Go.RowKit.wrap64 (x.snd.1 - (1 : Int)) = (↑(nat_lit 1) : Int)) then
              some (((x.fst.1, x.fst.snd.1, ((x.fst.snd.snd.fst.fst.1, x.fst.snd.snd.fst.fst.snd.1, x.fst.snd.snd.fst.fst.snd.snd.1, x.fst.snd.snd.fst.fst.snd.snd.2), (r2.fst.1, r2.fst.snd.1, r2.fst.snd.snd.1, r2.fst.snd.snd.2), x.fst.snd.snd.fst.snd.snd.1, x.fst.snd.snd.fst.snd.snd.snd.1, x.fst.snd.snd.fst.snd.snd.snd.snd.1, x.fst.snd.snd.fst.snd.snd.snd.snd.2), x.fst.snd.snd.snd.1, x.fst.snd.snd.snd.2), (0 : Int)))
            else
              bif Decidable.decide (Go.RowKit.wrap64 (x.snd.1 - (1 : Int)) = (↑(nat_lit 0) : Int)) then
                some (((x.fst.1, x.fst.snd.1, ((r2.fst.1, r2.fst.snd.1, r2.fst.snd.snd.1, r2.fst.snd.snd.2), (x.fst.snd.snd.fst.snd.fst.1, x.fst.snd.snd.fst.snd.fst.snd.1, x.fst.snd.snd.fst.snd.fst.snd.snd.1, x.fst.snd.snd.fst.snd.fst.snd.snd.2), x.fst.snd.snd.fst.snd.snd.1, x.fst.snd.snd.fst.snd.snd.snd.1, x.fst.snd.snd.fst.snd.snd.snd.snd.1, x.fst.snd.snd.fst.snd.snd.snd.snd.2), x.fst.snd.snd.snd.1, x.fst.snd.snd.snd.2), (0 : Int)))
              else
                none
      else
        bif Decidable.decide (Go.RowKit.wrap64 (x.snd.1 - (1 : Int)) = (↑(nat_lit 1) : Int)) then
          (tendrilref05_Retire (((x.fst.snd.snd.fst.snd.fst.1, x.fst.snd.snd.fst.snd.fst.snd.1, x.fst.snd.snd.fst.snd.fst.snd.snd.1, x.fst.snd.snd.fst.snd.fst.snd.snd.2), x.snd.2, x.fst.snd.snd.snd.1))).bind fun r3 =>
          bif r3.2 != (0 : Int) then
            some ((([], [], (([], [], [], []), ([], [], [], []), [], [], [], []), (0 : Int), []), r3.2))
          else
            bif Decidable.decide (Go.RowKit.wrap64 (x.snd.1 - (1 : Int)) = (↑(nat_lit 2) : Int)) then
              some (((x.fst.1, x.fst.snd.1, ((x.fst.snd.snd.fst.fst.1, x.fst.snd.snd.fst.fst.snd.1, x.fst.snd.snd.fst.fst.snd.snd.1, x.fst.snd.snd.fst.fst.snd.snd.2), (x.fst.snd.snd.fst.snd.fst.1, x.fst.snd.snd.fst.snd.fst.snd.1, x.fst.snd.snd.fst.snd.fst.snd.snd.1, x.fst.snd.snd.fst.snd.fst.snd.snd.2), r3.fst.1, r3.fst.snd.1, r3.fst.snd.snd.1, r3.fst.snd.snd.2), x.fst.snd.snd.snd.1, x.fst.snd.snd.snd.2), (0 : Int)))
            else
              bif Decidable.decide (Go.RowKit.wrap64 (x.snd.1 - (1 : Int)) = (↑(nat_lit 1) : Int)) then
                some (((x.fst.1, x.fst.snd.1, ((x.fst.snd.snd.fst.fst.1, x.fst.snd.snd.fst.fst.snd.1, x.fst.snd.snd.fst.fst.snd.snd.1, x.fst.snd.snd.fst.fst.snd.snd.2), (r3.fst.1, r3.fst.snd.1, r3.fst.snd.snd.1, r3.fst.snd.snd.2), x.fst.snd.snd.fst.snd.snd.1, x.fst.snd.snd.fst.snd.snd.snd.1, x.fst.snd.snd.fst.snd.snd.snd.snd.1, x.fst.snd.snd.fst.snd.snd.snd.snd.2), x.fst.snd.snd.snd.1, x.fst.snd.snd.snd.2), (0 : Int)))
              else
                bif Decidable.decide (Go.RowKit.wrap64 (x.snd.1 - (1 : Int)) = (↑(nat_lit 0) : Int)) then
                  some (((x.fst.1, x.fst.snd.1, ((r3.fst.1, r3.fst.snd.1, r3.fst.snd.snd.1, r3.fst.snd.snd.2), (x.fst.snd.snd.fst.snd.fst.1, x.fst.snd.snd.fst.snd.fst.snd.1, x.fst.snd.snd.fst.snd.fst.snd.snd.1, x.fst.snd.snd.fst.snd.fst.snd.snd.2), x.fst.snd.snd.fst.snd.snd.1, x.fst.snd.snd.fst.snd.snd.snd.1, x.fst.snd.snd.fst.snd.snd.snd.snd.1, x.fst.snd.snd.fst.snd.snd.snd.snd.2), x.fst.snd.snd.snd.1, x.fst.snd.snd.snd.2), (0 : Int)))
                else
                  none
        else
          bif Decidable.decide (Go.RowKit.wrap64 (x.snd.1 - (1 : Int)) = (↑(nat_lit 0) : Int)) then
            (tendrilref05_Retire (((x.fst.snd.snd.fst.fst.1, x.fst.snd.snd.fst.fst.snd.1, x.fst.snd.snd.fst.fst.snd.snd.1, x.fst.snd.snd.fst.fst.snd.snd.2), x.snd.2, x.fst.snd.snd.snd.1))).bind fun r4 =>
            bif r4.2 != (0 : Int) then
              some ((([], [], (([], [], [], []), ([], [], [], []), [], [], [], []), (0 : Int), []), r4.2))
            else
              bif Decidable.decide (Go.RowKit.wrap64 (x.snd.1 - (1 : Int)) = (↑(nat_lit 2) : Int)) then
                some (((x.fst.1, x.fst.snd.1, ((x.fst.snd.snd.fst.fst.1, x.fst.snd.snd.fst.fst.snd.1, x.fst.snd.snd.fst.fst.snd.snd.1, x.fst.snd.snd.fst.fst.snd.snd.2), (x.fst.snd.snd.fst.snd.fst.1, x.fst.snd.snd.fst.snd.fst.snd.1, x.fst.snd.snd.fst.snd.fst.snd.snd.1, x.fst.snd.snd.fst.snd.fst.snd.snd.2), r4.fst.1, r4.fst.snd.1, r4.fst.snd.snd.1, r4.fst.snd.snd.2), x.fst.snd.snd.snd.1, x.fst.snd.snd.snd.2), (0 : Int)))
              else
                bif Decidable.decide (Go.RowKit.wrap64 (x.snd.1 - (1 : Int)) = (↑(nat_lit 1) : Int)) then
                  some (((x.fst.1, x.fst.snd.1, ((x.fst.snd.snd.fst.fst.1, x.fst.snd.snd.fst.fst.snd.1, x.fst.snd.snd.fst.fst.snd.snd.1, x.fst.snd.snd.fst.fst.snd.snd.2), (r4.fst.1, r4.fst.snd.1, r4.fst.snd.snd.1, r4.fst.snd.snd.2), x.fst.snd.snd.fst.snd.snd.1, x.fst.snd.snd.fst.snd.snd.snd.1, x.fst.snd.snd.fst.snd.snd.snd.snd.1, x.fst.snd.snd.fst.snd.snd.snd.snd.2), x.fst.snd.snd.snd.1, x.fst.snd.snd.snd.2), (0 : Int)))
                else
                  bif Decidable.decide (Go.RowKit.wrap64 (x.snd.1 - (1 : Int)) = (↑(nat_lit 0) : Int)) then
                    some (((x.fst.1, x.fst.snd.1, ((r4.fst.1, r4.fst.snd.1, r4.fst.snd.snd.1, r4.fst.snd.snd.2), (x.fst.snd.snd.fst.snd.fst.1, x.fst.snd.snd.fst.snd.fst.snd.1, x.fst.snd.snd.fst.snd.fst.snd.snd.1, x.fst.snd.snd.fst.snd.fst.snd.snd.2), x.fst.snd.snd.fst.snd.snd.1, x.fst.snd.snd.fst.snd.snd.snd.1, x.fst.snd.snd.fst.snd.snd.snd.snd.1, x.fst.snd.snd.fst.snd.snd.snd.snd.2), x.fst.snd.snd.snd.1, x.fst.snd.snd.snd.2), (0 : Int)))
                  else
                    none
          else
            none
def tendrilref07_Retire_S : Sig := ⟨[⟨true, (.pair (.sl .int) (.pair (.sl .int) (.pair (.pair (.pair (.sl .int) (.pair (.sl .int) (.pair (.sl .int) (.sl .int)))) (.pair (.pair (.sl .int) (.pair (.sl .int) (.pair (.sl .int) (.sl .int)))) (.pair (.sl .int) (.pair (.sl .int) (.pair (.sl .int) (.sl .int)))))) (.pair .int (.sl .int)))))⟩, ⟨false, .int⟩, ⟨false, .int⟩], [⟨true, (.pair (.sl .int) (.pair (.sl .int) (.pair (.pair (.pair (.sl .int) (.pair (.sl .int) (.pair (.sl .int) (.sl .int)))) (.pair (.pair (.sl .int) (.pair (.sl .int) (.pair (.sl .int) (.sl .int)))) (.pair (.sl .int) (.pair (.sl .int) (.pair (.sl .int) (.sl .int)))))) (.pair .int (.sl .int)))))⟩, ⟨false, .int⟩], false, tendrilref07_Retire⟩
/-! tendril/tendrilref16.do -/
def tendrilref16_do (x : (Int × Int × Int × Int × Int) × (List Int × List Int × ((List Int × List Int × List Int × List Int) × (List Int × List Int × List Int × List Int) × List Int × List Int × List Int × List Int) × Int × List Int) × Int × Int × Int × Int × Int × Int × Int) : Option ((List Int × List Int × ((List Int × List Int × List Int × List Int) × (List Int × List Int × List Int × List Int) × List Int × List Int × List Int × List Int) × Int × List Int) × Int × Int) :=
  (tendrilref16_word (((x.snd.fst.1, x.snd.fst.snd.1, ((x.snd.fst.snd.snd.fst.fst.1, x.snd.fst.snd.snd.fst.fst.snd.1, x.snd.fst.snd.snd.fst.fst.snd.snd.1, x.snd.fst.snd.snd.fst.fst.snd.snd.2), (x.snd.fst.snd.snd.fst.snd.fst.1, x.snd.fst.snd.snd.fst.snd.fst.snd.1, x.snd.fst.snd.snd.fst.snd.fst.snd.snd.1, x.snd.fst.snd.snd.fst.snd.fst.snd.snd.2), x.snd.fst.snd.snd.fst.snd.snd.1, x.snd.fst.snd.snd.fst.snd.snd.snd.1, x.snd.fst.snd.snd.fst.snd.snd.snd.snd.1, x.snd.fst.snd.snd.fst.snd.snd.snd.snd.2), x.snd.fst.snd.snd.snd.1, x.snd.fst.snd.snd.snd.2), x.snd.snd.snd.1, x.snd.snd.snd.snd.1, x.snd.snd.snd.snd.snd.1, x.snd.snd.snd.snd.snd.snd.1, x.snd.snd.snd.snd.snd.snd.snd.1, x.snd.snd.snd.snd.snd.snd.snd.2))).bind fun r0 =>
  bif x.snd.snd.snd.1 == (1 : Int) then
    (tendrilref07_Pin (((x.snd.fst.1, x.snd.fst.snd.1, ((x.snd.fst.snd.snd.fst.fst.1, x.snd.fst.snd.snd.fst.fst.snd.1, x.snd.fst.snd.snd.fst.fst.snd.snd.1, x.snd.fst.snd.snd.fst.fst.snd.snd.2), (x.snd.fst.snd.snd.fst.snd.fst.1, x.snd.fst.snd.snd.fst.snd.fst.snd.1, x.snd.fst.snd.snd.fst.snd.fst.snd.snd.1, x.snd.fst.snd.snd.fst.snd.fst.snd.snd.2), x.snd.fst.snd.snd.fst.snd.snd.1, x.snd.fst.snd.snd.fst.snd.snd.snd.1, x.snd.fst.snd.snd.fst.snd.snd.snd.snd.1, x.snd.fst.snd.snd.fst.snd.snd.snd.snd.2), x.snd.fst.snd.snd.snd.1, x.snd.fst.snd.snd.snd.2), x.snd.snd.1))).bind fun r1 =>
    some (((r1.fst.1, r1.fst.snd.1, ((r1.fst.snd.snd.fst.fst.1, r1.fst.snd.snd.fst.fst.snd.1, r1.fst.snd.snd.fst.fst.snd.snd.1, r1.fst.snd.snd.fst.fst.snd.snd.2), (r1.fst.snd.snd.fst.snd.fst.1, r1.fst.snd.snd.fst.snd.fst.snd.1, r1.fst.snd.snd.fst.snd.fst.snd.snd.1, r1.fst.snd.snd.fst.snd.fst.snd.snd.2), r1.fst.snd.snd.fst.snd.snd.1, r1.fst.snd.snd.fst.snd.snd.snd.1, r1.fst.snd.snd.fst.snd.snd.snd.snd.1, r1.fst.snd.snd.fst.snd.snd.snd.snd.2), r1.fst.snd.snd.snd.1, r1.fst.snd.snd.snd.2), (0 : Int), r1.2))
  else
    bif x.snd.snd.snd.1 == (2 : Int) then
      (tendrilref07_End (((x.snd.fst.1, x.snd.fst.snd.1, ((x.snd.fst.snd.snd.fst.fst.1, x.snd.fst.snd.snd.fst.fst.snd.1, x.snd.fst.snd.snd.fst.fst.snd.snd.1, x.snd.fst.snd.snd.fst.fst.snd.snd.2), (x.snd.fst.snd.snd.fst.snd.fst.1, x.snd.fst.snd.snd.fst.snd.fst.snd.1, x.snd.fst.snd.snd.fst.snd.fst.snd.snd.1, x.snd.fst.snd.snd.fst.snd.fst.snd.snd.2), x.snd.fst.snd.snd.fst.snd.snd.1, x.snd.fst.snd.snd.fst.snd.snd.snd.1, x.snd.fst.snd.snd.fst.snd.snd.snd.snd.1, x.snd.fst.snd.snd.fst.snd.snd.snd.snd.2), x.snd.fst.snd.snd.snd.1, x.snd.fst.snd.snd.snd.2), x.snd.snd.1))).bind fun r2 =>
      some (((r2.fst.1, r2.fst.snd.1, ((r2.fst.snd.snd.fst.fst.1, r2.fst.snd.snd.fst.fst.snd.1, r2.fst.snd.snd.fst.fst.snd.snd.1, r2.fst.snd.snd.fst.fst.snd.snd.2), (r2.fst.snd.snd.fst.snd.fst.1, r2.fst.snd.snd.fst.snd.fst.snd.1, r2.fst.snd.snd.fst.snd.fst.snd.snd.1, r2.fst.snd.snd.fst.snd.fst.snd.snd.2), r2.fst.snd.snd.fst.snd.snd.1, r2.fst.snd.snd.fst.snd.snd.snd.1, r2.fst.snd.snd.fst.snd.snd.snd.snd.1, r2.fst.snd.snd.fst.snd.snd.snd.snd.2), r2.fst.snd.snd.snd.1, r2.fst.snd.snd.snd.2), (0 : Int), r2.2))
    else
      bif x.snd.snd.snd.1 == (3 : Int) then
        bif x.snd.snd.snd.snd.snd.1 == (0 : Int) then
          (tendrilref02_Load ((x.snd.fst.1, x.snd.snd.snd.snd.1))).bind fun r3 =>
          some (((x.snd.fst.1, x.snd.fst.snd.1, ((x.snd.fst.snd.snd.fst.fst.1, x.snd.fst.snd.snd.fst.fst.snd.1, x.snd.fst.snd.snd.fst.fst.snd.snd.1, x.snd.fst.snd.snd.fst.fst.snd.snd.2), (x.snd.fst.snd.snd.fst.snd.fst.1, x.snd.fst.snd.snd.fst.snd.fst.snd.1, x.snd.fst.snd.snd.fst.snd.fst.snd.snd.1, x.snd.fst.snd.snd.fst.snd.fst.snd.snd.2), x.snd.fst.snd.snd.fst.snd.snd.1, x.snd.fst.snd.snd.fst.snd.snd.snd.1, x.snd.fst.snd.snd.fst.snd.snd.snd.snd.1, x.snd.fst.snd.snd.fst.snd.snd.snd.snd.2), x.snd.fst.snd.snd.snd.1, x.snd.fst.snd.snd.snd.2), r3.1, r3.2))
        else
          (tendrilref14_Field (((x.fst.1, x.fst.snd.1, x.fst.snd.snd.1, x.fst.snd.snd.snd.1, x.fst.snd.snd.snd.2), x.snd.fst.1, x.snd.snd.snd.snd.snd.1, x.snd.snd.snd.snd.snd.snd.1, x.snd.snd.snd.snd.snd.snd.snd.1))).bind fun r4 =>
          some (((x.snd.fst.1, x.snd.fst.snd.1, ((x.snd.fst.snd.snd.fst.fst.1, x.snd.fst.snd.snd.fst.fst.snd.1, x.snd.fst.snd.snd.fst.fst.snd.snd.1, x.snd.fst.snd.snd.fst.fst.snd.snd.2), (x.snd.fst.snd.snd.fst.snd.fst.1, x.snd.fst.snd.snd.fst.snd.fst.snd.1, x.snd.fst.snd.snd.fst.snd.fst.snd.snd.1, x.snd.fst.snd.snd.fst.snd.fst.snd.snd.2), x.snd.fst.snd.snd.fst.snd.snd.1, x.snd.fst.snd.snd.fst.snd.snd.snd.1, x.snd.fst.snd.snd.fst.snd.snd.snd.snd.1, x.snd.fst.snd.snd.fst.snd.snd.snd.snd.2), x.snd.fst.snd.snd.snd.1, x.snd.fst.snd.snd.snd.2), r4.1, r4.2))
      else
        bif x.snd.snd.snd.1 == (4 : Int) then
          (tendrilref02_Store ((x.snd.fst.1, x.snd.snd.snd.snd.1, x.snd.snd.snd.snd.snd.snd.snd.2))).bind fun r5 =>
          bif x.snd.snd.snd.snd.snd.1 != (0 : Int) then
            (tendrilref14_Put (((x.fst.1, x.fst.snd.1, x.fst.snd.snd.1, x.fst.snd.snd.snd.1, x.fst.snd.snd.snd.2), x.snd.fst.1, x.snd.snd.snd.snd.snd.1, x.snd.snd.snd.snd.snd.snd.1, x.snd.snd.snd.snd.snd.snd.snd.1, x.snd.snd.snd.snd.snd.snd.snd.2))).bind fun r6 =>
            some (((r6.1, x.snd.fst.snd.1, ((x.snd.fst.snd.snd.fst.fst.1, x.snd.fst.snd.snd.fst.fst.snd.1, x.snd.fst.snd.snd.fst.fst.snd.snd.1, x.snd.fst.snd.snd.fst.fst.snd.snd.2), (x.snd.fst.snd.snd.fst.snd.fst.1, x.snd.fst.snd.snd.fst.snd.fst.snd.1, x.snd.fst.snd.snd.fst.snd.fst.snd.snd.1, x.snd.fst.snd.snd.fst.snd.fst.snd.snd.2), x.snd.fst.snd.snd.fst.snd.snd.1, x.snd.fst.snd.snd.fst.snd.snd.snd.1, x.snd.fst.snd.snd.fst.snd.snd.snd.snd.1, x.snd.fst.snd.snd.fst.snd.snd.snd.snd.2), x.snd.fst.snd.snd.snd.1, x.snd.fst.snd.snd.snd.2), (0 : Int), r6.2))
          else
            some (((r5.1, x.snd.fst.snd.1, ((x.snd.fst.snd.snd.fst.fst.1, x.snd.fst.snd.snd.fst.fst.snd.1, x.snd.fst.snd.snd.fst.fst.snd.snd.1, x.snd.fst.snd.snd.fst.fst.snd.snd.2), (x.snd.fst.snd.snd.fst.snd.fst.1, x.snd.fst.snd.snd.fst.snd.fst.snd.1, x.snd.fst.snd.snd.fst.snd.fst.snd.snd.1, x.snd.fst.snd.snd.fst.snd.fst.snd.snd.2), x.snd.fst.snd.snd.fst.snd.snd.1, x.snd.fst.snd.snd.fst.snd.snd.snd.1, x.snd.fst.snd.snd.fst.snd.snd.snd.snd.1, x.snd.fst.snd.snd.fst.snd.snd.snd.snd.2), x.snd.fst.snd.snd.snd.1, x.snd.fst.snd.snd.snd.2), (0 : Int), r5.2))
        else
          bif x.snd.snd.snd.1 == (5 : Int) then
            (tendrilref08_Try (r0.1)).bind fun r7 =>
            bif !r0.2 then
              some (((x.snd.fst.1, x.snd.fst.snd.1, ((x.snd.fst.snd.snd.fst.fst.1, x.snd.fst.snd.snd.fst.fst.snd.1, x.snd.fst.snd.snd.fst.fst.snd.snd.1, x.snd.fst.snd.snd.fst.fst.snd.snd.2), (x.snd.fst.snd.snd.fst.snd.fst.1, x.snd.fst.snd.snd.fst.snd.fst.snd.1, x.snd.fst.snd.snd.fst.snd.fst.snd.snd.1, x.snd.fst.snd.snd.fst.snd.fst.snd.snd.2), x.snd.fst.snd.snd.fst.snd.snd.1, x.snd.fst.snd.snd.fst.snd.snd.snd.1, x.snd.fst.snd.snd.fst.snd.snd.snd.snd.1, x.snd.fst.snd.snd.fst.snd.snd.snd.snd.2), x.snd.fst.snd.snd.snd.1, x.snd.fst.snd.snd.snd.2), (0 : Int), (1 : Int)))
            else
              bif !r7.2 then
                some (((x.snd.fst.1, x.snd.fst.snd.1, ((x.snd.fst.snd.snd.fst.fst.1, x.snd.fst.snd.snd.fst.fst.snd.1, x.snd.fst.snd.snd.fst.fst.snd.snd.1, x.snd.fst.snd.snd.fst.fst.snd.snd.2), (x.snd.fst.snd.snd.fst.snd.fst.1, x.snd.fst.snd.snd.fst.snd.fst.snd.1, x.snd.fst.snd.snd.fst.snd.fst.snd.snd.1, x.snd.fst.snd.snd.fst.snd.fst.snd.snd.2), x.snd.fst.snd.snd.fst.snd.snd.1, x.snd.fst.snd.snd.fst.snd.snd.snd.1, x.snd.fst.snd.snd.fst.snd.snd.snd.snd.1, x.snd.fst.snd.snd.fst.snd.snd.snd.snd.2), x.snd.fst.snd.snd.snd.1, x.snd.fst.snd.snd.snd.2), (0 : Int), (1 : Int)))
              else
                (tendrilref16_set (((x.snd.fst.1, x.snd.fst.snd.1, ((x.snd.fst.snd.snd.fst.fst.1, x.snd.fst.snd.snd.fst.fst.snd.1, x.snd.fst.snd.snd.fst.fst.snd.snd.1, x.snd.fst.snd.snd.fst.fst.snd.snd.2), (x.snd.fst.snd.snd.fst.snd.fst.1, x.snd.fst.snd.snd.fst.snd.fst.snd.1, x.snd.fst.snd.snd.fst.snd.fst.snd.snd.1, x.snd.fst.snd.snd.fst.snd.fst.snd.snd.2), x.snd.fst.snd.snd.fst.snd.snd.1, x.snd.fst.snd.snd.fst.snd.snd.snd.1, x.snd.fst.snd.snd.fst.snd.snd.snd.snd.1, x.snd.fst.snd.snd.fst.snd.snd.snd.snd.2), x.snd.fst.snd.snd.snd.1, x.snd.fst.snd.snd.snd.2), x.snd.snd.snd.snd.1, r7.1))).bind fun r8 =>
                some (((r8.1, r8.snd.1, ((r8.snd.snd.fst.fst.1, r8.snd.snd.fst.fst.snd.1, r8.snd.snd.fst.fst.snd.snd.1, r8.snd.snd.fst.fst.snd.snd.2), (r8.snd.snd.fst.snd.fst.1, r8.snd.snd.fst.snd.fst.snd.1, r8.snd.snd.fst.snd.fst.snd.snd.1, r8.snd.snd.fst.snd.fst.snd.snd.2), r8.snd.snd.fst.snd.snd.1, r8.snd.snd.fst.snd.snd.snd.1, r8.snd.snd.fst.snd.snd.snd.snd.1, r8.snd.snd.fst.snd.snd.snd.snd.2), r8.snd.snd.snd.1, r8.snd.snd.snd.2), (0 : Int), (0 : Int)))
          else
            bif x.snd.snd.snd.1 == (6 : Int) then
              (tendrilref08_Free (r0.1)).bind fun r9 =>
              bif !r0.2 then
                some (((x.snd.fst.1, x.snd.fst.snd.1, ((x.snd.fst.snd.snd.fst.fst.1, x.snd.fst.snd.snd.fst.fst.snd.1, x.snd.fst.snd.snd.fst.fst.snd.snd.1, x.snd.fst.snd.snd.fst.fst.snd.snd.2), (x.snd.fst.snd.snd.fst.snd.fst.1, x.snd.fst.snd.snd.fst.snd.fst.snd.1, x.snd.fst.snd.snd.fst.snd.fst.snd.snd.1, x.snd.fst.snd.snd.fst.snd.fst.snd.snd.2), x.snd.fst.snd.snd.fst.snd.snd.1, x.snd.fst.snd.snd.fst.snd.snd.snd.1, x.snd.fst.snd.snd.fst.snd.snd.snd.snd.1, x.snd.fst.snd.snd.fst.snd.snd.snd.snd.2), x.snd.fst.snd.snd.snd.1, x.snd.fst.snd.snd.snd.2), (0 : Int), (1 : Int)))
              else
                bif r9.2 != (0 : Int) then
                  some (((x.snd.fst.1, x.snd.fst.snd.1, ((x.snd.fst.snd.snd.fst.fst.1, x.snd.fst.snd.snd.fst.fst.snd.1, x.snd.fst.snd.snd.fst.fst.snd.snd.1, x.snd.fst.snd.snd.fst.fst.snd.snd.2), (x.snd.fst.snd.snd.fst.snd.fst.1, x.snd.fst.snd.snd.fst.snd.fst.snd.1, x.snd.fst.snd.snd.fst.snd.fst.snd.snd.1, x.snd.fst.snd.snd.fst.snd.fst.snd.snd.2), x.snd.fst.snd.snd.fst.snd.snd.1, x.snd.fst.snd.snd.fst.snd.snd.snd.1, x.snd.fst.snd.snd.fst.snd.snd.snd.snd.1, x.snd.fst.snd.snd.fst.snd.snd.snd.snd.2), x.snd.fst.snd.snd.snd.1, x.snd.fst.snd.snd.snd.2), (0 : Int), r9.2))
                else
                  (tendrilref16_set (((x.snd.fst.1, x.snd.fst.snd.1, ((x.snd.fst.snd.snd.fst.fst.1, x.snd.fst.snd.snd.fst.fst.snd.1, x.snd.fst.snd.snd.fst.fst.snd.snd.1, x.snd.fst.snd.snd.fst.fst.snd.snd.2), (x.snd.fst.snd.snd.fst.snd.fst.1, x.snd.fst.snd.snd.fst.snd.fst.snd.1, x.snd.fst.snd.snd.fst.snd.fst.snd.snd.1, x.snd.fst.snd.snd.fst.snd.fst.snd.snd.2), x.snd.fst.snd.snd.fst.snd.snd.1, x.snd.fst.snd.snd.fst.snd.snd.snd.1, x.snd.fst.snd.snd.fst.snd.snd.snd.snd.1, x.snd.fst.snd.snd.fst.snd.snd.snd.snd.2), x.snd.fst.snd.snd.snd.1, x.snd.fst.snd.snd.snd.2), x.snd.snd.snd.snd.1, r9.1))).bind fun r10 =>
                  some (((r10.1, r10.snd.1, ((r10.snd.snd.fst.fst.1, r10.snd.snd.fst.fst.snd.1, r10.snd.snd.fst.fst.snd.snd.1, r10.snd.snd.fst.fst.snd.snd.2), (r10.snd.snd.fst.snd.fst.1, r10.snd.snd.fst.snd.fst.snd.1, r10.snd.snd.fst.snd.fst.snd.snd.1, r10.snd.snd.fst.snd.fst.snd.snd.2), r10.snd.snd.fst.snd.snd.1, r10.snd.snd.fst.snd.snd.snd.1, r10.snd.snd.fst.snd.snd.snd.snd.1, r10.snd.snd.fst.snd.snd.snd.snd.2), r10.snd.snd.snd.1, r10.snd.snd.snd.2), (0 : Int), (0 : Int)))
            else
              bif x.snd.snd.snd.1 == (7 : Int) then
                bif !r0.2 then
                  some (((x.snd.fst.1, x.snd.fst.snd.1, ((x.snd.fst.snd.snd.fst.fst.1, x.snd.fst.snd.snd.fst.fst.snd.1, x.snd.fst.snd.snd.fst.fst.snd.snd.1, x.snd.fst.snd.snd.fst.fst.snd.snd.2), (x.snd.fst.snd.snd.fst.snd.fst.1, x.snd.fst.snd.snd.fst.snd.fst.snd.1, x.snd.fst.snd.snd.fst.snd.fst.snd.snd.1, x.snd.fst.snd.snd.fst.snd.fst.snd.snd.2), x.snd.fst.snd.snd.fst.snd.snd.1, x.snd.fst.snd.snd.fst.snd.snd.snd.1, x.snd.fst.snd.snd.fst.snd.snd.snd.snd.1, x.snd.fst.snd.snd.fst.snd.snd.snd.snd.2), x.snd.fst.snd.snd.snd.1, x.snd.fst.snd.snd.snd.2), (0 : Int), (1 : Int)))
                else
                  some (((x.snd.fst.1, x.snd.fst.snd.1, ((x.snd.fst.snd.snd.fst.fst.1, x.snd.fst.snd.snd.fst.fst.snd.1, x.snd.fst.snd.snd.fst.fst.snd.snd.1, x.snd.fst.snd.snd.fst.fst.snd.snd.2), (x.snd.fst.snd.snd.fst.snd.fst.1, x.snd.fst.snd.snd.fst.snd.fst.snd.1, x.snd.fst.snd.snd.fst.snd.fst.snd.snd.1, x.snd.fst.snd.snd.fst.snd.fst.snd.snd.2), x.snd.fst.snd.snd.fst.snd.snd.1, x.snd.fst.snd.snd.fst.snd.snd.snd.1, x.snd.fst.snd.snd.fst.snd.snd.snd.snd.1, x.snd.fst.snd.snd.fst.snd.snd.snd.snd.2), x.snd.fst.snd.snd.snd.1, x.snd.fst.snd.snd.snd.2), r0.1, (0 : Int)))
              else
                bif x.snd.snd.snd.1 == (8 : Int) then
                  (tendrilref07_Take (((x.snd.fst.1, x.snd.fst.snd.1, ((x.snd.fst.snd.snd.fst.fst.1, x.snd.fst.snd.snd.fst.fst.snd.1, x.snd.fst.snd.snd.fst.fst.snd.snd.1, x.snd.fst.snd.snd.fst.fst.snd.snd.2), (x.snd.fst.snd.snd.fst.snd.fst.1, x.snd.fst.snd.snd.fst.snd.fst.snd.1, x.snd.fst.snd.snd.fst.snd.fst.snd.snd.1, x.snd.fst.snd.snd.fst.snd.fst.snd.snd.2), x.snd.fst.snd.snd.fst.snd.snd.1, x.snd.fst.snd.snd.fst.snd.snd.snd.1, x.snd.fst.snd.snd.fst.snd.snd.snd.snd.1, x.snd.fst.snd.snd.fst.snd.snd.snd.snd.2), x.snd.fst.snd.snd.snd.1, x.snd.fst.snd.snd.snd.2), x.snd.snd.snd.snd.snd.1))).bind fun r11 =>
                  bif r11.snd.2 == (3 : Int) then
                    some (((x.snd.fst.1, x.snd.fst.snd.1, ((x.snd.fst.snd.snd.fst.fst.1, x.snd.fst.snd.snd.fst.fst.snd.1, x.snd.fst.snd.snd.fst.fst.snd.snd.1, x.snd.fst.snd.snd.fst.fst.snd.snd.2), (x.snd.fst.snd.snd.fst.snd.fst.1, x.snd.fst.snd.snd.fst.snd.fst.snd.1, x.snd.fst.snd.snd.fst.snd.fst.snd.snd.1, x.snd.fst.snd.snd.fst.snd.fst.snd.snd.2), x.snd.fst.snd.snd.fst.snd.snd.1, x.snd.fst.snd.snd.fst.snd.snd.snd.1, x.snd.fst.snd.snd.fst.snd.snd.snd.snd.1, x.snd.fst.snd.snd.fst.snd.snd.snd.snd.2), x.snd.fst.snd.snd.snd.1, x.snd.fst.snd.snd.snd.2), (0 : Int), (0 : Int)))
                  else
                    some (((r11.fst.1, r11.fst.snd.1, ((r11.fst.snd.snd.fst.fst.1, r11.fst.snd.snd.fst.fst.snd.1, r11.fst.snd.snd.fst.fst.snd.snd.1, r11.fst.snd.snd.fst.fst.snd.snd.2), (r11.fst.snd.snd.fst.snd.fst.1, r11.fst.snd.snd.fst.snd.fst.snd.1, r11.fst.snd.snd.fst.snd.fst.snd.snd.1, r11.fst.snd.snd.fst.snd.fst.snd.snd.2), r11.fst.snd.snd.fst.snd.snd.1, r11.fst.snd.snd.fst.snd.snd.snd.1, r11.fst.snd.snd.fst.snd.snd.snd.snd.1, r11.fst.snd.snd.fst.snd.snd.snd.snd.2), r11.fst.snd.snd.snd.1, r11.fst.snd.snd.snd.2), r11.snd.1, r11.snd.2))
                else
                  bif x.snd.snd.snd.1 == (9 : Int) then
                    (tendrilref07_Retire (((x.snd.fst.1, x.snd.fst.snd.1, ((x.snd.fst.snd.snd.fst.fst.1, x.snd.fst.snd.snd.fst.fst.snd.1, x.snd.fst.snd.snd.fst.fst.snd.snd.1, x.snd.fst.snd.snd.fst.fst.snd.snd.2), (x.snd.fst.snd.snd.fst.snd.fst.1, x.snd.fst.snd.snd.fst.snd.fst.snd.1, x.snd.fst.snd.snd.fst.snd.fst.snd.snd.1, x.snd.fst.snd.snd.fst.snd.fst.snd.snd.2), x.snd.fst.snd.snd.fst.snd.snd.1, x.snd.fst.snd.snd.fst.snd.snd.snd.1, x.snd.fst.snd.snd.fst.snd.snd.snd.snd.1, x.snd.fst.snd.snd.fst.snd.snd.snd.snd.2), x.snd.fst.snd.snd.snd.1, x.snd.fst.snd.snd.snd.2), x.snd.snd.snd.snd.snd.1, x.snd.snd.snd.snd.snd.snd.1))).bind fun r12 =>
                    some (((r12.fst.1, r12.fst.snd.1, ((r12.fst.snd.snd.fst.fst.1, r12.fst.snd.snd.fst.fst.snd.1, r12.fst.snd.snd.fst.fst.snd.snd.1, r12.fst.snd.snd.fst.fst.snd.snd.2), (r12.fst.snd.snd.fst.snd.fst.1, r12.fst.snd.snd.fst.snd.fst.snd.1, r12.fst.snd.snd.fst.snd.fst.snd.snd.1, r12.fst.snd.snd.fst.snd.fst.snd.snd.2), r12.fst.snd.snd.fst.snd.snd.1, r12.fst.snd.snd.fst.snd.snd.snd.1, r12.fst.snd.snd.fst.snd.snd.snd.snd.1, r12.fst.snd.snd.fst.snd.snd.snd.snd.2), r12.fst.snd.snd.snd.1, r12.fst.snd.snd.snd.2), (0 : Int), r12.2))
                  else
                    some (((x.snd.fst.1, x.snd.fst.snd.1, ((x.snd.fst.snd.snd.fst.fst.1, x.snd.fst.snd.snd.fst.fst.snd.1, x.snd.fst.snd.snd.fst.fst.snd.snd.1, x.snd.fst.snd.snd.fst.fst.snd.snd.2), (x.snd.fst.snd.snd.fst.snd.fst.1, x.snd.fst.snd.snd.fst.snd.fst.snd.1, x.snd.fst.snd.snd.fst.snd.fst.snd.snd.1, x.snd.fst.snd.snd.fst.snd.fst.snd.snd.2), x.snd.fst.snd.snd.fst.snd.snd.1, x.snd.fst.snd.snd.fst.snd.snd.snd.1, x.snd.fst.snd.snd.fst.snd.snd.snd.snd.1, x.snd.fst.snd.snd.fst.snd.snd.snd.snd.2), x.snd.fst.snd.snd.snd.1, x.snd.fst.snd.snd.snd.2), (0 : Int), (1 : Int)))
def tendrilref16_do_S : Sig := ⟨[⟨true, (.pair .int (.pair .int (.pair .int (.pair .int .int))))⟩, ⟨true, (.pair (.sl .int) (.pair (.sl .int) (.pair (.pair (.pair (.sl .int) (.pair (.sl .int) (.pair (.sl .int) (.sl .int)))) (.pair (.pair (.sl .int) (.pair (.sl .int) (.pair (.sl .int) (.sl .int)))) (.pair (.sl .int) (.pair (.sl .int) (.pair (.sl .int) (.sl .int)))))) (.pair .int (.sl .int)))))⟩, ⟨false, .int⟩, ⟨true, (.pair .int (.pair .int (.pair .int (.pair .int (.pair .int .int)))))⟩], [⟨true, (.pair (.sl .int) (.pair (.sl .int) (.pair (.pair (.pair (.sl .int) (.pair (.sl .int) (.pair (.sl .int) (.sl .int)))) (.pair (.pair (.sl .int) (.pair (.sl .int) (.pair (.sl .int) (.sl .int)))) (.pair (.sl .int) (.pair (.sl .int) (.pair (.sl .int) (.sl .int)))))) (.pair .int (.sl .int)))))⟩, ⟨false, .int⟩, ⟨false, .int⟩], false, tendrilref16_do⟩
/-! tendril/tendrilref07.Gen -/
def tendrilref07_Gen (x : (List Int × List Int × ((List Int × List Int × List Int × List Int) × (List Int × List Int × List Int × List Int) × List Int × List Int × List Int × List Int) × Int × List Int) × Int × Int) : Option (Int × Int × Int) :=
  (tendrilref01_Unpack (x.snd.2)).bind fun r0 =>
  (tendrilref07_Check ((x.fst.1, x.fst.snd.1, ((x.fst.snd.snd.fst.fst.1, x.fst.snd.snd.fst.fst.snd.1, x.fst.snd.snd.fst.fst.snd.snd.1, x.fst.snd.snd.fst.fst.snd.snd.2), (x.fst.snd.snd.fst.snd.fst.1, x.fst.snd.snd.fst.snd.fst.snd.1, x.fst.snd.snd.fst.snd.fst.snd.snd.1, x.fst.snd.snd.fst.snd.fst.snd.snd.2), x.fst.snd.snd.fst.snd.snd.1, x.fst.snd.snd.fst.snd.snd.snd.1, x.fst.snd.snd.fst.snd.snd.snd.snd.1, x.fst.snd.snd.fst.snd.snd.snd.snd.2), x.fst.snd.snd.snd.1, x.fst.snd.snd.snd.2))).bind fun r1 =>
  bif r1 != (0 : Int) then
    some (((0 : Int), (0 : Int), (1 : Int)))
  else
    (tendrilref07_kind (x.snd.1)).bind fun r2 =>
    bif !r2 then
      some (((0 : Int), (0 : Int), (1 : Int)))
    else
      bif r0.snd.2 != (0 : Int) then
        some (((0 : Int), (0 : Int), (1 : Int)))
      else
        bif Decidable.decide (Go.RowKit.wrap64 (x.snd.1 - (1 : Int)) = (↑(nat_lit 2) : Int)) then
          bif Decidable.decide ((↑(List.length x.fst.snd.snd.fst.snd.snd.1) : Int) ≤ r0.1) then
            some (((0 : Int), (0 : Int), (1 : Int)))
          else
            bif Decidable.decide (Go.RowKit.wrap64 (x.snd.1 - (1 : Int)) = (↑(nat_lit 2) : Int)) then
              bif Decidable.decide ((0 : Int) ≤ r0.1) then
                bif Decidable.decide (r0.1 < (↑(List.length x.fst.snd.snd.fst.snd.snd.1) : Int)) then
                  bif Decidable.decide (Go.RowKit.wrap64 (x.snd.1 - (1 : Int)) = (↑(nat_lit 2) : Int)) then
                    bif Decidable.decide ((0 : Int) ≤ r0.1) then
                      bif Decidable.decide (r0.1 < (↑(List.length x.fst.snd.snd.fst.snd.snd.snd.1) : Int)) then
                        some ((List.getD x.fst.snd.snd.fst.snd.snd.1 (Int.toNat r0.1) (0 : Int), List.getD x.fst.snd.snd.fst.snd.snd.snd.1 (Int.toNat r0.1) (0 : Int), (0 : Int)))
                      else
                        none
                    else
                      none
                  else
                    bif Decidable.decide (Go.RowKit.wrap64 (x.snd.1 - (1 : Int)) = (↑(nat_lit 1) : Int)) then
                      bif Decidable.decide ((0 : Int) ≤ r0.1) then
                        bif Decidable.decide (r0.1 < (↑(List.length x.fst.snd.snd.fst.snd.fst.snd.1) : Int)) then
                          some ((List.getD x.fst.snd.snd.fst.snd.snd.1 (Int.toNat r0.1) (0 : Int), List.getD x.fst.snd.snd.fst.snd.fst.snd.1 (Int.toNat r0.1) (0 : Int), (0 : Int)))
                        else
                          none
                      else
                        none
                    else
                      bif Decidable.decide (Go.RowKit.wrap64 (x.snd.1 - (1 : Int)) = (↑(nat_lit 0) : Int)) then
                        bif Decidable.decide ((0 : Int) ≤ r0.1) then
                          bif Decidable.decide (r0.1 < (↑(List.length x.fst.snd.snd.fst.fst.snd.1) : Int)) then
                            some ((List.getD x.fst.snd.snd.fst.snd.snd.1 (Int.toNat r0.1) (0 : Int), List.getD x.fst.snd.snd.fst.fst.snd.1 (Int.toNat r0.1) (0 : Int), (0 : Int)))
                          else
                            none
                        else
                          none
                      else
                        none
                else
                  none
              else
                none
            else
              bif Decidable.decide (Go.RowKit.wrap64 (x.snd.1 - (1 : Int)) = (↑(nat_lit 1) : Int)) then
                bif Decidable.decide ((0 : Int) ≤ r0.1) then
                  bif Decidable.decide (r0.1 < (↑(List.length x.fst.snd.snd.fst.snd.fst.1) : Int)) then
                    bif Decidable.decide (Go.RowKit.wrap64 (x.snd.1 - (1 : Int)) = (↑(nat_lit 2) : Int)) then
                      bif Decidable.decide ((0 : Int) ≤ r0.1) then
                        bif Decidable.decide (r0.1 < (↑(List.length x.fst.snd.snd.fst.snd.snd.snd.1) : Int)) then
                          some ((List.getD x.fst.snd.snd.fst.snd.fst.1 (Int.toNat r0.1) (0 : Int), List.getD x.fst.snd.snd.fst.snd.snd.snd.1 (Int.toNat r0.1) (0 : Int), (0 : Int)))
                        else
                          none
                      else
                        none
                    else
                      bif Decidable.decide (Go.RowKit.wrap64 (x.snd.1 - (1 : Int)) = (↑(nat_lit 1) : Int)) then
                        bif Decidable.decide ((0 : Int) ≤ r0.1) then
                          bif Decidable.decide (r0.1 < (↑(List.length x.fst.snd.snd.fst.snd.fst.snd.1) : Int)) then
                            some ((List.getD x.fst.snd.snd.fst.snd.fst.1 (Int.toNat r0.1) (0 : Int), List.getD x.fst.snd.snd.fst.snd.fst.snd.1 (Int.toNat r0.1) (0 : Int), (0 : Int)))
                          else
                            none
                        else
                          none
                      else
                        bif Decidable.decide (Go.RowKit.wrap64 (x.snd.1 - (1 : Int)) = (↑(nat_lit 0) : Int)) then
                          bif Decidable.decide ((0 : Int) ≤ r0.1) then
                            bif Decidable.decide (r0.1 < (↑(List.length x.fst.snd.snd.fst.fst.snd.1) : Int)) then
                              some ((List.getD x.fst.snd.snd.fst.snd.fst.1 (Int.toNat r0.1) (0 : Int), List.getD x.fst.snd.snd.fst.fst.snd.1 (Int.toNat r0.1) (0 : Int), (0 : Int)))
                            else
                              none
                          else
                            none
                        else
                          none
                  else
                    none
                else
                  none
              else
                bif Decidable.decide (Go.RowKit.wrap64 (x.snd.1 - (1 : Int)) = (↑(nat_lit 0) : Int)) then
                  bif Decidable.decide ((0 : Int) ≤ r0.1) then
                    bif Decidable.decide (r0.1 < (↑(List.length x.fst.snd.snd.fst.fst.1) : Int)) then
                      bif Decidable.decide (Go.RowKit.wrap64 (x.snd.1 - (1 : Int)) = (↑(nat_lit 2) : Int)) then
                        bif Decidable.decide ((0 : Int) ≤ r0.1) then
                          bif Decidable.decide (r0.1 < (↑(List.length x.fst.snd.snd.fst.snd.snd.snd.1) : Int)) then
                            some ((List.getD x.fst.snd.snd.fst.fst.1 (Int.toNat r0.1) (0 : Int), List.getD x.fst.snd.snd.fst.snd.snd.snd.1 (Int.toNat r0.1) (0 : Int), (0 : Int)))
                          else
                            none
                        else
                          none
                      else
                        bif Decidable.decide (Go.RowKit.wrap64 (x.snd.1 - (1 : Int)) = (↑(nat_lit 1) : Int)) then
                          bif Decidable.decide ((0 : Int) ≤ r0.1) then
                            bif Decidable.decide (r0.1 < (↑(List.length x.fst.snd.snd.fst.snd.fst.snd.1) : Int)) then
                              some ((List.getD x.fst.snd.snd.fst.fst.1 (Int.toNat r0.1) (0 : Int), List.getD x.fst.snd.snd.fst.snd.fst.snd.1 (Int.toNat r0.1) (0 : Int), (0 : Int)))
                            else
                              none
                          else
                            none
                        else
                          bif Decidable.decide (Go.RowKit.wrap64 (x.snd.1 - (1 : Int)) = (↑(nat_lit 0) : Int)) then
                            bif Decidable.decide ((0 : Int) ≤ r0.1) then
                              bif Decidable.decide (r0.1 < (↑(List.length x.fst.snd.snd.fst.fst.snd.1) : Int)) then
                                some ((List.getD x.fst.snd.snd.fst.fst.1 (Int.toNat r0.1) (0 : Int), List.getD x.fst.snd.snd.fst.fst.snd.1 (Int.toNat r0.1) (0 : Int), (0 : Int)))
                              else
                                none
                            else
                              none
                          else
                            none
                    else
                      none
                  else
                    none
                else
                  none
        else
          bif Decidable.decide (Go.RowKit.wrap64 (x.snd.1 - (1 : Int)) = (↑(nat_lit 1) : Int)) then
            bif Decidable.decide ((↑(List.length x.fst.snd.snd.fst.snd.fst.1) : Int) ≤ r0.1) then
              some (((0 : Int), (0 : Int), (1 : Int)))
            else
              bif Decidable.decide (Go.RowKit.wrap64 (x.snd.1 - (1 : Int)) = (↑(nat_lit 2) : Int)) then
                bif Decidable.decide ((0 : Int) ≤ r0.1) then
                  bif Decidable.decide (r0.1 < (↑(List.length x.fst.snd.snd.fst.snd.snd.1) : Int)) then
                    bif Decidable.decide (Go.RowKit.wrap64 (x.snd.1 - (1 : Int)) = (↑(nat_lit 2) : Int)) then
                      bif Decidable.decide ((0 : Int) ≤ r0.1) then
                        bif Decidable.decide (r0.1 < (↑(List.length x.fst.snd.snd.fst.snd.snd.snd.1) : Int)) then
                          some ((List.getD x.fst.snd.snd.fst.snd.snd.1 (Int.toNat r0.1) (0 : Int), List.getD x.fst.snd.snd.fst.snd.snd.snd.1 (Int.toNat r0.1) (0 : Int), (0 : Int)))
                        else
                          none
                      else
                        none
                    else
                      bif Decidable.decide (Go.RowKit.wrap64 (x.snd.1 - (1 : Int)) = (↑(nat_lit 1) : Int)) then
                        bif Decidable.decide ((0 : Int) ≤ r0.1) then
                          bif Decidable.decide (r0.1 < (↑(List.length x.fst.snd.snd.fst.snd.fst.snd.1) : Int)) then
                            some ((List.getD x.fst.snd.snd.fst.snd.snd.1 (Int.toNat r0.1) (0 : Int), List.getD x.fst.snd.snd.fst.snd.fst.snd.1 (Int.toNat r0.1) (0 : Int), (0 : Int)))
                          else
                            none
                        else
                          none
                      else
                        bif Decidable.decide (Go.RowKit.wrap64 (x.snd.1 - (1 : Int)) = (↑(nat_lit 0) : Int)) then
                          bif Decidable.decide ((0 : Int) ≤ r0.1) then
                            bif Decidable.decide (r0.1 < (↑(List.length x.fst.snd.snd.fst.fst.snd.1) : Int)) then
                              some ((List.getD x.fst.snd.snd.fst.snd.snd.1 (Int.toNat r0.1) (0 : Int), List.getD x.fst.snd.snd.fst.fst.snd.1 (Int.toNat r0.1) (0 : Int), (0 : Int)))
                            else
                              none
                          else
                            none
                        else
                          none
                  else
                    none
                else
                  none
              else
                bif Decidable.decide (Go.RowKit.wrap64 (x.snd.1 - (1 : Int)) = (↑(nat_lit 1) : Int)) then
                  bif Decidable.decide ((0 : Int) ≤ r0.1) then
                    bif Decidable.decide (r0.1 < (↑(List.length x.fst.snd.snd.fst.snd.fst.1) : Int)) then
                      bif Decidable.decide (Go.RowKit.wrap64 (x.snd.1 - (1 : Int)) = (↑(nat_lit 2) : Int)) then
                        bif Decidable.decide ((0 : Int) ≤ r0.1) then
                          bif Decidable.decide (r0.1 < (↑(List.length x.fst.snd.snd.fst.snd.snd.snd.1) : Int)) then
                            some ((List.getD x.fst.snd.snd.fst.snd.fst.1 (Int.toNat r0.1) (0 : Int), List.getD x.fst.snd.snd.fst.snd.snd.snd.1 (Int.toNat r0.1) (0 : Int), (0 : Int)))
                          else
                            none
                        else
                          none
                      else
                        bif Decidable.decide (Go.RowKit.wrap64 (x.snd.1 - (1 : Int)) = (↑(nat_lit 1) : Int)) then
                          bif Decidable.decide ((0 : Int) ≤ r0.1) then
                            bif Decidable.decide (r0.1 < (↑(List.length x.fst.snd.snd.fst.snd.fst.snd.1) : Int)) then
                              some ((List.getD x.fst.snd.snd.fst.snd.fst.1 (Int.toNat r0.1) (0 : Int), List.getD x.fst.snd.snd.fst.snd.fst.snd.1 (Int.toNat r0.1) (0 : Int), (0 : Int)))
                            else
                              none
                          else
                            none
                        else
                          bif Decidable.decide (Go.RowKit.wrap64 (x.snd.1 - (1 : Int)) = (↑(nat_lit 0) : Int)) then
                            bif Decidable.decide ((0 : Int) ≤ r0.1) then
                              bif Decidable.decide (r0.1 < (↑(List.length x.fst.snd.snd.fst.fst.snd.1) : Int)) then
                                some ((List.getD x.fst.snd.snd.fst.snd.fst.1 (Int.toNat r0.1) (0 : Int), List.getD x.fst.snd.snd.fst.fst.snd.1 (Int.toNat r0.1) (0 : Int), (0 : Int)))
                              else
                                none
                            else
                              none
                          else
                            none
                    else
                      none
                  else
                    none
                else
                  bif Decidable.decide (Go.RowKit.wrap64 (x.snd.1 - (1 : Int)) = (↑(nat_lit 0) : Int)) then
                    bif Decidable.decide ((0 : Int) ≤ r0.1) then
                      bif Decidable.decide (r0.1 < (↑(List.length x.fst.snd.snd.fst.fst.1) : Int)) then
                        bif Decidable.decide (Go.RowKit.wrap64 (x.snd.1 - (1 : Int)) = (↑(nat_lit 2) : Int)) then
                          bif Decidable.decide ((0 : Int) ≤ r0.1) then
                            bif Decidable.decide (r0.1 < (↑(List.length x.fst.snd.snd.fst.snd.snd.snd.1) : Int)) then
                              some ((List.getD x.fst.snd.snd.fst.fst.1 (Int.toNat r0.1) (0 : Int), List.getD x.fst.snd.snd.fst.snd.snd.snd.1 (Int.toNat r0.1) (0 : Int), (0 : Int)))
                            else
                              none
                          else
                            none
                        else
                          bif Decidable.decide (Go.RowKit.wrap64 (x.snd.1 - (1 : Int)) = (↑(nat_lit 1) : Int)) then
                            bif Decidable.decide ((0 : Int) ≤ r0.1) then
                              bif Decidable.decide (r0.1 < (↑(List.length x.fst.snd.snd.fst.snd.fst.snd.1) : Int)) then
                                some ((List.getD x.fst.snd.snd.fst.fst.1 (Int.toNat r0.1) (0 : Int), List.getD x.fst.snd.snd.fst.snd.fst.snd.1 (Int.toNat r0.1) (0 : Int), (0 : Int)))
                              else
                                none
                            else
                              none
                          else
                            bif Decidable.decide (Go.RowKit.wrap64 (x.snd.1 - (1 : Int)) = (↑(nat_lit 0) : Int)) then
                              bif Decidable.decide ((0 : Int) ≤ r0.1) then
                                bif Decidable.decide (r0.1 < (↑(List.length x.fst.snd.snd.fst.fst.snd.1) : Int)) then
                                  some ((List.getD x.fst.snd.snd.fst.fst.1 (Int.toNat r0.1) (0 : Int), List.getD x.fst.snd.snd.fst.fst.snd.1 (Int.toNat r0.1) (0 : Int), (0 : Int)))
                                else
                                  none
                              else
                                none
                            else
                              none
                      else
                        none
                    else
                      none
                  else
                    none
          else
            bif Decidable.decide (Go.RowKit.wrap64 (x.snd.1 - (1 : Int)) = (↑(nat_lit 0) : Int)) then
              bif Decidable.decide ((↑(List.length x.fst.snd.snd.fst.fst.1) : Int) ≤ r0.1) then
                some (((0 : Int), (0 : Int), (1 : Int)))
              else
                bif Decidable.decide (Go.RowKit.wrap64 (x.snd.1 - (1 : Int)) = (↑(nat_lit 2) : Int)) then
                  bif Decidable.decide ((0 : Int) ≤ r0.1) then
                    bif Decidable.decide (r0.1 < (↑(List.length x.fst.snd.snd.fst.snd.snd.1) : Int)) then
                      bif Decidable.decide (Go.RowKit.wrap64 (x.snd.1 - (1 : Int)) = (↑(nat_lit 2) : Int)) then
                        bif Decidable.decide ((0 : Int) ≤ r0.1) then
                          bif Decidable.decide (r0.1 < (↑(List.length x.fst.snd.snd.fst.snd.snd.snd.1) : Int)) then
                            some ((List.getD x.fst.snd.snd.fst.snd.snd.1 (Int.toNat r0.1) (0 : Int), List.getD x.fst.snd.snd.fst.snd.snd.snd.1 (Int.toNat r0.1) (0 : Int), (0 : Int)))
                          else
                            none
                        else
                          none
                      else
                        bif Decidable.decide (Go.RowKit.wrap64 (x.snd.1 - (1 : Int)) = (↑(nat_lit 1) : Int)) then
                          bif Decidable.decide ((0 : Int) ≤ r0.1) then
                            bif Decidable.decide (r0.1 < (↑(List.length x.fst.snd.snd.fst.snd.fst.snd.1) : Int)) then
                              some ((List.getD x.fst.snd.snd.fst.snd.snd.1 (Int.toNat r0.1) (0 : Int), List.getD x.fst.snd.snd.fst.snd.fst.snd.1 (Int.toNat r0.1) (0 : Int), (0 : Int)))
                            else
                              none
                          else
                            none
                        else
                          bif Decidable.decide (Go.RowKit.wrap64 (x.snd.1 - (1 : Int)) = (↑(nat_lit 0) : Int)) then
                            bif Decidable.decide ((0 : Int) ≤ r0.1) then
                              bif Decidable.decide (r0.1 < (↑(List.length x.fst.snd.snd.fst.fst.snd.1) : Int)) then
                                some ((List.getD x.fst.snd.snd.fst.snd.snd.1 (Int.toNat r0.1) (0 : Int), List.getD x.fst.snd.snd.fst.fst.snd.1 (Int.toNat r0.1) (0 : Int), (0 : Int)))
                              else
                                none
                            else
                              none
                          else
                            none
                    else
                      none
                  else
                    none
                else
                  bif Decidable.decide (Go.RowKit.wrap64 (x.snd.1 - (1 : Int)) = (↑(nat_lit 1) : Int)) then
                    bif Decidable.decide ((0 : Int) ≤ r0.1) then
                      bif Decidable.decide (r0.1 < (↑(List.length x.fst.snd.snd.fst.snd.fst.1) : Int)) then
                        bif Decidable.decide (Go.RowKit.wrap64 (x.snd.1 - (1 : Int)) = (↑(nat_lit 2) : Int)) then
                          bif Decidable.decide ((0 : Int) ≤ r0.1) then
                            bif Decidable.decide (r0.1 < (↑(List.length x.fst.snd.snd.fst.snd.snd.snd.1) : Int)) then
                              some ((List.getD x.fst.snd.snd.fst.snd.fst.1 (Int.toNat r0.1) (0 : Int), List.getD x.fst.snd.snd.fst.snd.snd.snd.1 (Int.toNat r0.1) (0 : Int), (0 : Int)))
                            else
                              none
                          else
                            none
                        else
                          bif Decidable.decide (Go.RowKit.wrap64 (x.snd.1 - (1 : Int)) = (↑(nat_lit 1) : Int)) then
                            bif Decidable.decide ((0 : Int) ≤ r0.1) then
                              bif Decidable.decide (r0.1 < (↑(List.length x.fst.snd.snd.fst.snd.fst.snd.1) : Int)) then
                                some ((List.getD x.fst.snd.snd.fst.snd.fst.1 (Int.toNat r0.1) (0 : Int), List.getD x.fst.snd.snd.fst.snd.fst.snd.1 (Int.toNat r0.1) (0 : Int), (0 : Int)))
                              else
                                none
                            else
                              none
                          else
                            bif Decidable.decide (Go.RowKit.wrap64 (x.snd.1 - (1 : Int)) = (↑(nat_lit 0) : Int)) then
                              bif Decidable.decide ((0 : Int) ≤ r0.1) then
                                bif Decidable.decide (r0.1 < (↑(List.length x.fst.snd.snd.fst.fst.snd.1) : Int)) then
                                  some ((List.getD x.fst.snd.snd.fst.snd.fst.1 (Int.toNat r0.1) (0 : Int), List.getD x.fst.snd.snd.fst.fst.snd.1 (Int.toNat r0.1) (0 : Int), (0 : Int)))
                                else
                                  none
                              else
                                none
                            else
                              none
                      else
                        none
                    else
                      none
                  else
                    bif Decidable.decide (Go.RowKit.wrap64 (x.snd.1 - (1 : Int)) = (↑(nat_lit 0) : Int)) then
                      bif Decidable.decide ((0 : Int) ≤ r0.1) then
                        bif Decidable.decide (r0.1 < (↑(List.length x.fst.snd.snd.fst.fst.1) : Int)) then
                          bif Decidable.decide (Go.RowKit.wrap64 (x.snd.1 - (1 : Int)) = (↑(nat_lit 2) : Int)) then
                            bif Decidable.decide ((0 : Int) ≤ r0.1) then
                              bif Decidable.decide (r0.1 < (↑(List.length x.fst.snd.snd.fst.snd.snd.snd.1) : Int)) then
                                some ((List.getD x.fst.snd.snd.fst.fst.1 (Int.toNat r0.1) (0 : Int), List.getD x.fst.snd.snd.fst.snd.snd.snd.1 (Int.toNat r0.1) (0 : Int), (0 : Int)))
                              else
                                none
                            else
                              none
                          else
                            bif Decidable.decide (Go.RowKit.wrap64 (x.snd.1 - (1 : Int)) = (↑(nat_lit 1) : Int)) then
                              bif Decidable.decide ((0 : Int) ≤ r0.1) then
                                bif Decidable.decide (r0.1 < (↑(List.length x.fst.snd.snd.fst.snd.fst.snd.1) : Int)) then
                                  some ((List.getD x.fst.snd.snd.fst.fst.1 (Int.toNat r0.1) (0 : Int), List.getD x.fst.snd.snd.fst.snd.fst.snd.1 (Int.toNat r0.1) (0 : Int), (0 : Int)))
                                else
                                  none
                              else
                                none
                            else
                              bif Decidable.decide (Go.RowKit.wrap64 (x.snd.1 - (1 : Int)) = (↑(nat_lit 0) : Int)) then
                                bif Decidable.decide ((0 : Int) ≤ r0.1) then
                                  bif Decidable.decide (r0.1 < (↑(List.length x.fst.snd.snd.fst.fst.snd.1) : Int)) then
                                    some ((List.getD x.fst.snd.snd.fst.fst.1 (Int.toNat r0.1) (0 : Int), List.getD x.fst.snd.snd.fst.fst.snd.1 (Int.toNat r0.1) (0 : Int), (0 : Int)))
                                  else
                                    none
                                else
                                  none
                              else
                                none
                        else
                          none
                      else
                        none
                    else
                      none
            else
              none
def tendrilref07_Gen_S : Sig := ⟨[⟨true, (.pair (.sl .int) (.pair (.sl .int) (.pair (.pair (.pair (.sl .int) (.pair (.sl .int) (.pair (.sl .int) (.sl .int)))) (.pair (.pair (.sl .int) (.pair (.sl .int) (.pair (.sl .int) (.sl .int)))) (.pair (.sl .int) (.pair (.sl .int) (.pair (.sl .int) (.sl .int)))))) (.pair .int (.sl .int)))))⟩, ⟨false, .int⟩, ⟨false, .int⟩], [⟨false, .int⟩, ⟨false, .int⟩, ⟨false, .int⟩], false, tendrilref07_Gen⟩
/-! tendril/tendrilref16.Do -/
def tendrilref16_Do (x : (Int × Int × Int × Int × Int) × (List Int × List Int × ((List Int × List Int × List Int × List Int) × (List Int × List Int × List Int × List Int) × List Int × List Int × List Int × List Int) × Int × List Int) × Int × Int × Int × Int × Int × Int × Int) : Option ((List Int × List Int × ((List Int × List Int × List Int × List Int) × (List Int × List Int × List Int × List Int) × List Int × List Int × List Int × List Int) × Int × List Int) × Int × List (Int × Int × Int × Int × Int × Int × Int × Bool) × Int) :=
  (tendrilref15_Check (((x.fst.1, x.fst.snd.1, x.fst.snd.snd.1, x.fst.snd.snd.snd.1, x.fst.snd.snd.snd.2), x.snd.fst.1, x.snd.fst.snd.1, ((x.snd.fst.snd.snd.fst.fst.1, x.snd.fst.snd.snd.fst.fst.snd.1, x.snd.fst.snd.snd.fst.fst.snd.snd.1, x.snd.fst.snd.snd.fst.fst.snd.snd.2), (x.snd.fst.snd.snd.fst.snd.fst.1, x.snd.fst.snd.snd.fst.snd.fst.snd.1, x.snd.fst.snd.snd.fst.snd.fst.snd.snd.1, x.snd.fst.snd.snd.fst.snd.fst.snd.snd.2), x.snd.fst.snd.snd.fst.snd.snd.1, x.snd.fst.snd.snd.fst.snd.snd.snd.1, x.snd.fst.snd.snd.fst.snd.snd.snd.snd.1, x.snd.fst.snd.snd.fst.snd.snd.snd.snd.2), x.snd.fst.snd.snd.snd.1, x.snd.fst.snd.snd.snd.2))).bind fun r0 =>
  bif r0 != (0 : Int) then
    some ((([], [], (([], [], [], []), ([], [], [], []), [], [], [], []), (0 : Int), []), (0 : Int), [], (1 : Int)))
  else
    (tendrilref16_Waits (((x.snd.fst.1, x.snd.fst.snd.1, ((x.snd.fst.snd.snd.fst.fst.1, x.snd.fst.snd.snd.fst.fst.snd.1, x.snd.fst.snd.snd.fst.fst.snd.snd.1, x.snd.fst.snd.snd.fst.fst.snd.snd.2), (x.snd.fst.snd.snd.fst.snd.fst.1, x.snd.fst.snd.snd.fst.snd.fst.snd.1, x.snd.fst.snd.snd.fst.snd.fst.snd.snd.1, x.snd.fst.snd.snd.fst.snd.fst.snd.snd.2), x.snd.fst.snd.snd.fst.snd.snd.1, x.snd.fst.snd.snd.fst.snd.snd.snd.1, x.snd.fst.snd.snd.fst.snd.snd.snd.snd.1, x.snd.fst.snd.snd.fst.snd.snd.snd.snd.2), x.snd.fst.snd.snd.snd.1, x.snd.fst.snd.snd.snd.2), x.snd.snd.snd.1, x.snd.snd.snd.snd.1, x.snd.snd.snd.snd.snd.1, x.snd.snd.snd.snd.snd.snd.1, x.snd.snd.snd.snd.snd.snd.snd.1, x.snd.snd.snd.snd.snd.snd.snd.2))).bind fun r1 =>
    bif r1 then
      some ((([], [], (([], [], [], []), ([], [], [], []), [], [], [], []), (0 : Int), []), (0 : Int), [], (2 : Int)))
    else
      (tendrilref16_do (((x.fst.1, x.fst.snd.1, x.fst.snd.snd.1, x.fst.snd.snd.snd.1, x.fst.snd.snd.snd.2), (x.snd.fst.1, x.snd.fst.snd.1, ((x.snd.fst.snd.snd.fst.fst.1, x.snd.fst.snd.snd.fst.fst.snd.1, x.snd.fst.snd.snd.fst.fst.snd.snd.1, x.snd.fst.snd.snd.fst.fst.snd.snd.2), (x.snd.fst.snd.snd.fst.snd.fst.1, x.snd.fst.snd.snd.fst.snd.fst.snd.1, x.snd.fst.snd.snd.fst.snd.fst.snd.snd.1, x.snd.fst.snd.snd.fst.snd.fst.snd.snd.2), x.snd.fst.snd.snd.fst.snd.snd.1, x.snd.fst.snd.snd.fst.snd.snd.snd.1, x.snd.fst.snd.snd.fst.snd.snd.snd.snd.1, x.snd.fst.snd.snd.fst.snd.snd.snd.snd.2), x.snd.fst.snd.snd.snd.1, x.snd.fst.snd.snd.snd.2), x.snd.snd.1, x.snd.snd.snd.1, x.snd.snd.snd.snd.1, x.snd.snd.snd.snd.snd.1, x.snd.snd.snd.snd.snd.snd.1, x.snd.snd.snd.snd.snd.snd.snd.1, x.snd.snd.snd.snd.snd.snd.snd.2))).bind fun r2 =>
      bif r2.snd.2 != (0 : Int) then
        some ((([], [], (([], [], [], []), ([], [], [], []), [], [], [], []), (0 : Int), []), (0 : Int), [], r2.snd.2))
      else
        bif x.snd.snd.snd.1 != (3 : Int) then
          bif x.snd.snd.snd.1 != (4 : Int) then
            some (((r2.fst.1, r2.fst.snd.1, ((r2.fst.snd.snd.fst.fst.1, r2.fst.snd.snd.fst.fst.snd.1, r2.fst.snd.snd.fst.fst.snd.snd.1, r2.fst.snd.snd.fst.fst.snd.snd.2), (r2.fst.snd.snd.fst.snd.fst.1, r2.fst.snd.snd.fst.snd.fst.snd.1, r2.fst.snd.snd.fst.snd.fst.snd.snd.1, r2.fst.snd.snd.fst.snd.fst.snd.snd.2), r2.fst.snd.snd.fst.snd.snd.1, r2.fst.snd.snd.fst.snd.snd.snd.1, r2.fst.snd.snd.fst.snd.snd.snd.snd.1, r2.fst.snd.snd.fst.snd.snd.snd.snd.2), r2.fst.snd.snd.snd.1, r2.fst.snd.snd.snd.2), r2.snd.1, [], (0 : Int)))
          else
            bif x.snd.snd.snd.snd.snd.1 == (0 : Int) then
              some (((r2.fst.1, r2.fst.snd.1, ((r2.fst.snd.snd.fst.fst.1, r2.fst.snd.snd.fst.fst.snd.1, r2.fst.snd.snd.fst.fst.snd.snd.1, r2.fst.snd.snd.fst.fst.snd.snd.2), (r2.fst.snd.snd.fst.snd.fst.1, r2.fst.snd.snd.fst.snd.fst.snd.1, r2.fst.snd.snd.fst.snd.fst.snd.snd.1, r2.fst.snd.snd.fst.snd.fst.snd.snd.2), r2.fst.snd.snd.fst.snd.snd.1, r2.fst.snd.snd.fst.snd.snd.snd.1, r2.fst.snd.snd.fst.snd.snd.snd.snd.1, r2.fst.snd.snd.fst.snd.snd.snd.snd.2), r2.fst.snd.snd.snd.1, r2.fst.snd.snd.snd.2), r2.snd.1, [], (0 : Int)))
            else
              (tendrilref01_Unpack (x.snd.snd.snd.snd.snd.snd.1)).bind fun r3 =>
              (tendrilref07_Gen (((x.snd.fst.1, x.snd.fst.snd.1, ((x.snd.fst.snd.snd.fst.fst.1, x.snd.fst.snd.snd.fst.fst.snd.1, x.snd.fst.snd.snd.fst.fst.snd.snd.1, x.snd.fst.snd.snd.fst.fst.snd.snd.2), (x.snd.fst.snd.snd.fst.snd.fst.1, x.snd.fst.snd.snd.fst.snd.fst.snd.1, x.snd.fst.snd.snd.fst.snd.fst.snd.snd.1, x.snd.fst.snd.snd.fst.snd.fst.snd.snd.2), x.snd.fst.snd.snd.fst.snd.snd.1, x.snd.fst.snd.snd.fst.snd.snd.snd.1, x.snd.fst.snd.snd.fst.snd.snd.snd.snd.1, x.snd.fst.snd.snd.fst.snd.snd.snd.snd.2), x.snd.fst.snd.snd.snd.1, x.snd.fst.snd.snd.snd.2), x.snd.snd.snd.snd.snd.1, x.snd.snd.snd.snd.snd.snd.1))).bind fun r4 =>
              some (((r2.fst.1, r2.fst.snd.1, ((r2.fst.snd.snd.fst.fst.1, r2.fst.snd.snd.fst.fst.snd.1, r2.fst.snd.snd.fst.fst.snd.snd.1, r2.fst.snd.snd.fst.fst.snd.snd.2), (r2.fst.snd.snd.fst.snd.fst.1, r2.fst.snd.snd.fst.snd.fst.snd.1, r2.fst.snd.snd.fst.snd.fst.snd.snd.1, r2.fst.snd.snd.fst.snd.fst.snd.snd.2), r2.fst.snd.snd.fst.snd.snd.1, r2.fst.snd.snd.fst.snd.snd.snd.1, r2.fst.snd.snd.fst.snd.snd.snd.snd.1, r2.fst.snd.snd.fst.snd.snd.snd.snd.2), r2.fst.snd.snd.snd.1, r2.fst.snd.snd.snd.2), r2.snd.1, [(x.snd.snd.1, x.snd.snd.snd.snd.snd.1, r3.1, x.snd.snd.snd.snd.snd.snd.snd.1, r3.snd.1, r4.1, r4.snd.1, x.snd.snd.snd.1 == (4 : Int))], (0 : Int)))
        else
          bif x.snd.snd.snd.snd.snd.1 == (0 : Int) then
            some (((r2.fst.1, r2.fst.snd.1, ((r2.fst.snd.snd.fst.fst.1, r2.fst.snd.snd.fst.fst.snd.1, r2.fst.snd.snd.fst.fst.snd.snd.1, r2.fst.snd.snd.fst.fst.snd.snd.2), (r2.fst.snd.snd.fst.snd.fst.1, r2.fst.snd.snd.fst.snd.fst.snd.1, r2.fst.snd.snd.fst.snd.fst.snd.snd.1, r2.fst.snd.snd.fst.snd.fst.snd.snd.2), r2.fst.snd.snd.fst.snd.snd.1, r2.fst.snd.snd.fst.snd.snd.snd.1, r2.fst.snd.snd.fst.snd.snd.snd.snd.1, r2.fst.snd.snd.fst.snd.snd.snd.snd.2), r2.fst.snd.snd.snd.1, r2.fst.snd.snd.snd.2), r2.snd.1, [], (0 : Int)))
          else
            (tendrilref01_Unpack (x.snd.snd.snd.snd.snd.snd.1)).bind fun r5 =>
            (tendrilref07_Gen (((x.snd.fst.1, x.snd.fst.snd.1, ((x.snd.fst.snd.snd.fst.fst.1, x.snd.fst.snd.snd.fst.fst.snd.1, x.snd.fst.snd.snd.fst.fst.snd.snd.1, x.snd.fst.snd.snd.fst.fst.snd.snd.2), (x.snd.fst.snd.snd.fst.snd.fst.1, x.snd.fst.snd.snd.fst.snd.fst.snd.1, x.snd.fst.snd.snd.fst.snd.fst.snd.snd.1, x.snd.fst.snd.snd.fst.snd.fst.snd.snd.2), x.snd.fst.snd.snd.fst.snd.snd.1, x.snd.fst.snd.snd.fst.snd.snd.snd.1, x.snd.fst.snd.snd.fst.snd.snd.snd.snd.1, x.snd.fst.snd.snd.fst.snd.snd.snd.snd.2), x.snd.fst.snd.snd.snd.1, x.snd.fst.snd.snd.snd.2), x.snd.snd.snd.snd.snd.1, x.snd.snd.snd.snd.snd.snd.1))).bind fun r6 =>
            some (((r2.fst.1, r2.fst.snd.1, ((r2.fst.snd.snd.fst.fst.1, r2.fst.snd.snd.fst.fst.snd.1, r2.fst.snd.snd.fst.fst.snd.snd.1, r2.fst.snd.snd.fst.fst.snd.snd.2), (r2.fst.snd.snd.fst.snd.fst.1, r2.fst.snd.snd.fst.snd.fst.snd.1, r2.fst.snd.snd.fst.snd.fst.snd.snd.1, r2.fst.snd.snd.fst.snd.fst.snd.snd.2), r2.fst.snd.snd.fst.snd.snd.1, r2.fst.snd.snd.fst.snd.snd.snd.1, r2.fst.snd.snd.fst.snd.snd.snd.snd.1, r2.fst.snd.snd.fst.snd.snd.snd.snd.2), r2.fst.snd.snd.snd.1, r2.fst.snd.snd.snd.2), r2.snd.1, [(x.snd.snd.1, x.snd.snd.snd.snd.snd.1, r5.1, x.snd.snd.snd.snd.snd.snd.snd.1, r5.snd.1, r6.1, r6.snd.1, x.snd.snd.snd.1 == (4 : Int))], (0 : Int)))
def tendrilref16_Do_S : Sig := ⟨[⟨true, (.pair .int (.pair .int (.pair .int (.pair .int .int))))⟩, ⟨true, (.pair (.sl .int) (.pair (.sl .int) (.pair (.pair (.pair (.sl .int) (.pair (.sl .int) (.pair (.sl .int) (.sl .int)))) (.pair (.pair (.sl .int) (.pair (.sl .int) (.pair (.sl .int) (.sl .int)))) (.pair (.sl .int) (.pair (.sl .int) (.pair (.sl .int) (.sl .int)))))) (.pair .int (.sl .int)))))⟩, ⟨false, .int⟩, ⟨true, (.pair .int (.pair .int (.pair .int (.pair .int (.pair .int .int)))))⟩], [⟨true, (.pair (.sl .int) (.pair (.sl .int) (.pair (.pair (.pair (.sl .int) (.pair (.sl .int) (.pair (.sl .int) (.sl .int)))) (.pair (.pair (.sl .int) (.pair (.sl .int) (.pair (.sl .int) (.sl .int)))) (.pair (.sl .int) (.pair (.sl .int) (.pair (.sl .int) (.sl .int)))))) (.pair .int (.sl .int)))))⟩, ⟨false, .int⟩, ⟨false, (.sl (.pair .int (.pair .int (.pair .int (.pair .int (.pair .int (.pair .int (.pair .int .bool))))))))⟩, ⟨false, .int⟩], false, tendrilref16_Do⟩
/-! tendril/tendrilref02.Same -/
def tendrilref02_Same_L10 : Nat → (List Int) → (List Int) → (Int) → (Int) → Option (Bool)
  | 0, _, _, _, _ => none
  | k + 1, p0, p1, p2, p3 =>
    bif Decidable.decide (p3 < p2) then
      bif Decidable.decide ((0 : Int) ≤ p3) then
        bif Decidable.decide (p3 < (↑p0.length : Int)) then
          bif Decidable.decide ((0 : Int) ≤ p3) then
            bif Decidable.decide (p3 < (↑p1.length : Int)) then
              bif p0.getD p3.toNat (0 : Int) != p1.getD p3.toNat (0 : Int) then
                some (Bool.false)
              else
                tendrilref02_Same_L10 k (p0) (p1) (p2) (Go.RowKit.wrap64 (p3 + (1 : Int)))
            else
              none
          else
            none
        else
          none
      else
        none
    else
      some (Bool.true)
def tendrilref02_Same_K (K : Nat) (x : List Int × List Int) : Option (Bool) :=
  bif (↑(List.length x.1) : Int) != (↑(List.length x.2) : Int) then
    some (Bool.false)
  else
    tendrilref02_Same_L10 K (x.1) (x.2) ((↑(List.length x.1) : Int)) ((0 : Int))
def tendrilref02_Same (x : (List Int) × (List Int)) : Option (Bool) := tendrilref02_Same_K 2000000 x
def tendrilref02_Same_S : Sig := ⟨[⟨false, (.sl .int)⟩, ⟨false, (.sl .int)⟩], [⟨false, .bool⟩], false, tendrilref02_Same⟩
/-! tendril/tendrilref05.Same -/
def tendrilref05_Same (x : (List Int × List Int × List Int × List Int) × List Int × List Int × List Int × List Int) : Option (Bool) :=
  (tendrilref02_Same ((x.fst.1, x.snd.1))).bind fun r0 =>
  bif r0 then
    (tendrilref02_Same ((x.fst.snd.1, x.snd.snd.1))).bind fun r1 =>
    bif r1 then
      (tendrilref02_Same ((x.fst.snd.snd.1, x.snd.snd.snd.1))).bind fun r2 =>
      bif r2 then
        (tendrilref02_Same ((x.fst.snd.snd.2, x.snd.snd.snd.2))).bind fun r3 =>
        some (r3)
      else
        some (Bool.false)
    else
      some (Bool.false)
  else
    some (Bool.false)
def tendrilref05_Same_S : Sig := ⟨[⟨true, (.pair (.sl .int) (.pair (.sl .int) (.pair (.sl .int) (.sl .int))))⟩, ⟨true, (.pair (.sl .int) (.pair (.sl .int) (.pair (.sl .int) (.sl .int))))⟩], [⟨false, .bool⟩], false, tendrilref05_Same⟩
/-! tendril/tendrilref06.Same -/
def tendrilref06_Same (x : (Int × List Int) × Int × List Int) : Option (Bool) :=
  bif x.fst.1 == x.snd.1 then
    (tendrilref02_Same ((x.fst.2, x.snd.2))).bind fun r0 =>
    some (r0)
  else
    some (Bool.false)
def tendrilref06_Same_S : Sig := ⟨[⟨true, (.pair .int (.sl .int))⟩, ⟨true, (.pair .int (.sl .int))⟩], [⟨false, .bool⟩], false, tendrilref06_Same⟩
/-! tendril/tendrilref07.Same -/
def tendrilref07_Same_L6 : Nat → (Int) → (List Int) → (List Int) → (List Int) → (List Int) → (List Int) → (List Int) → (List Int) → (List Int) → (List Int) → (List Int) → (List Int) → (List Int) → (List Int) → (List Int) → (Int) → (List Int) → (List Int) → (List Int) → (List Int) → (List Int) → (List Int) → (List Int) → (List Int) → (List Int) → (List Int) → (List Int) → (List Int) → (List Int) → (List Int) → (List Int) → (Int) → (List Int) → Option (Bool)
  | 0, _, _, _, _, _, _, _, _, _, _, _, _, _, _, _, _, _, _, _, _, _, _, _, _, _, _, _, _, _, _, _, _, _ => none
  | k + 1, p0, p1, p2, p3, p4, p5, p6, p7, p8, p9, p10, p11, p12, p13, p14, p15, p16, p17, p18, p19, p20, p21, p22, p23, p24, p25, p26, p27, p28, p29, p30, p31, p32 =>
    bif Decidable.decide (p0 < (3 : Int)) then
      bif Decidable.decide (p0 = (↑(nat_lit 2) : Int)) then
        bif Decidable.decide (p0 = (↑(nat_lit 2) : Int)) then
          (tendrilref05_Same (((p11, p12, p13, p14), p27, p28, p29, p30))).bind fun r0 =>
          bif !r0 then
            some (Bool.false)
          else
            tendrilref07_Same_L6 k (Go.RowKit.wrap64 (p0 + (1 : Int))) (p1) (p2) (p3) (p4) (p5) (p6) (p7) (p8) (p9) (p10) (p11) (p12) (p13) (p14) (p15) (p16) (p17) (p18) (p19) (p20) (p21) (p22) (p23) (p24) (p25) (p26) (p27) (p28) (p29) (p30) (p31) (p32)
        else
          bif Decidable.decide (p0 = (↑(nat_lit 1) : Int)) then
            (tendrilref05_Same (((p11, p12, p13, p14), p23, p24, p25, p26))).bind fun r1 =>
            bif !r1 then
              some (Bool.false)
            else
              tendrilref07_Same_L6 k (Go.RowKit.wrap64 (p0 + (1 : Int))) (p1) (p2) (p3) (p4) (p5) (p6) (p7) (p8) (p9) (p10) (p11) (p12) (p13) (p14) (p15) (p16) (p17) (p18) (p19) (p20) (p21) (p22) (p23) (p24) (p25) (p26) (p27) (p28) (p29) (p30) (p31) (p32)
          else
            bif Decidable.decide (p0 = (↑(nat_lit 0) : Int)) then
              (tendrilref05_Same (((p11, p12, p13, p14), p19, p20, p21, p22))).bind fun r2 =>
              bif !r2 then
                some (Bool.false)
              else
                tendrilref07_Same_L6 k (Go.RowKit.wrap64 (p0 + (1 : Int))) (p1) (p2) (p3) (p4) (p5) (p6) (p7) (p8) (p9) (p10) (p11) (p12) (p13) (p14) (p15) (p16) (p17) (p18) (p19) (p20) (p21) (p22) (p23) (p24) (p25) (p26) (p27) (p28) (p29) (p30) (p31) (p32)
            else
              none
      else
        bif Decidable.decide (p0 = (↑(nat_lit 1) : Int)) then
          bif Decidable.decide (p0 = (↑(nat_lit 2) : Int)) then
            (tendrilref05_Same (((p7, p8, p9, p10), p27, p28, p29, p30))).bind fun r3 =>
            bif !r3 then
              some (Bool.false)
            else
              tendrilref07_Same_L6 k (Go.RowKit.wrap64 (p0 + (1 : Int))) (p1) (p2) (p3) (p4) (p5) (p6) (p7) (p8) (p9) (p10) (p11) (p12) (p13) (p14) (p15) (p16) (p17) (p18) (p19) (p20) (p21) (p22) (p23) (p24) (p25) (p26) (p27) (p28) (p29) (p30) (p31) (p32)
          else
            bif Decidable.decide (p0 = (↑(nat_lit 1) : Int)) then
              (tendrilref05_Same (((p7, p8, p9, p10), p23, p24, p25, p26))).bind fun r4 =>
              bif !r4 then
                some (Bool.false)
              else
                tendrilref07_Same_L6 k (Go.RowKit.wrap64 (p0 + (1 : Int))) (p1) (p2) (p3) (p4) (p5) (p6) (p7) (p8) (p9) (p10) (p11) (p12) (p13) (p14) (p15) (p16) (p17) (p18) (p19) (p20) (p21) (p22) (p23) (p24) (p25) (p26) (p27) (p28) (p29) (p30) (p31) (p32)
            else
              bif Decidable.decide (p0 = (↑(nat_lit 0) : Int)) then
                (tendrilref05_Same (((p7, p8, p9, p10), p19, p20, p21, p22))).bind fun r5 =>
                bif !r5 then
                  some (Bool.false)
                else
                  tendrilref07_Same_L6 k (Go.RowKit.wrap64 (p0 + (1 : Int))) (p1) (p2) (p3) (p4) (p5) (p6) (p7) (p8) (p9) (p10) (p11) (p12) (p13) (p14) (p15) (p16) (p17) (p18) (p19) (p20) (p21) (p22) (p23) (p24) (p25) (p26) (p27) (p28) (p29) (p30) (p31) (p32)
              else
                none
        else
          bif Decidable.decide (p0 = (↑(nat_lit 0) : Int)) then
            bif Decidable.decide (p0 = (↑(nat_lit 2) : Int)) then
              (tendrilref05_Same (((p3, p4, p5, p6), p27, p28, p29, p30))).bind fun r6 =>
              bif !r6 then
                some (Bool.false)
              else
                tendrilref07_Same_L6 k (Go.RowKit.wrap64 (p0 + (1 : Int))) (p1) (p2) (p3) (p4) (p5) (p6) (p7) (p8) (p9) (p10) (p11) (p12) (p13) (p14) (p15) (p16) (p17) (p18) (p19) (p20) (p21) (p22) (p23) (p24) (p25) (p26) (p27) (p28) (p29) (p30) (p31) (p32)
            else
              bif Decidable.decide (p0 = (↑(nat_lit 1) : Int)) then
                (tendrilref05_Same (((p3, p4, p5, p6), p23, p24, p25, p26))).bind fun r7 =>
                bif !r7 then
                  some (Bool.false)
                else
                  tendrilref07_Same_L6 k (Go.RowKit.wrap64 (p0 + (1 : Int))) (p1) (p2) (p3) (p4) (p5) (p6) (p7) (p8) (p9) (p10) (p11) (p12) (p13) (p14) (p15) (p16) (p17) (p18) (p19) (p20) (p21) (p22) (p23) (p24) (p25) (p26) (p27) (p28) (p29) (p30) (p31) (p32)
              else
                bif Decidable.decide (p0 = (↑(nat_lit 0) : Int)) then
                  (tendrilref05_Same (((p3, p4, p5, p6), p19, p20, p21, p22))).bind fun r8 =>
                  bif !r8 then
                    some (Bool.false)
                  else
                    tendrilref07_Same_L6 k (Go.RowKit.wrap64 (p0 + (1 : Int))) (p1) (p2) (p3) (p4) (p5) (p6) (p7) (p8) (p9) (p10) (p11) (p12) (p13) (p14) (p15) (p16) (p17) (p18) (p19) (p20) (p21) (p22) (p23) (p24) (p25) (p26) (p27) (p28) (p29) (p30) (p31) (p32)
                else
                  none
          else
            none
    else
      (tendrilref06_Same (((p15, p16), p31, p32))).bind fun r9 =>
      bif r9 then
        (tendrilref02_Same ((p1, p17))).bind fun r10 =>
        bif r10 then
          (tendrilref02_Same ((p2, p18))).bind fun r11 =>
          some (r11)
        else
          some (Bool.false)
      else
        some (Bool.false)
def tendrilref07_Same_K (K : Nat) (x : (List Int × List Int × ((List Int × List Int × List Int × List Int) × (List Int × List Int × List Int × List Int) × List Int × List Int × List Int × List Int) × Int × List Int) × List Int × List Int × ((List Int × List Int × List Int × List Int) × (List Int × List Int × List Int × List Int) × List Int × List Int × List Int × List Int) × Int × List Int) : Option (Bool) :=
  tendrilref07_Same_L6 K ((0 : Int)) (x.fst.1) (x.fst.snd.1) (x.fst.snd.snd.fst.fst.1) (x.fst.snd.snd.fst.fst.snd.1) (x.fst.snd.snd.fst.fst.snd.snd.1) (x.fst.snd.snd.fst.fst.snd.snd.2) (x.fst.snd.snd.fst.snd.fst.1) (x.fst.snd.snd.fst.snd.fst.snd.1) (x.fst.snd.snd.fst.snd.fst.snd.snd.1) (x.fst.snd.snd.fst.snd.fst.snd.snd.2) (x.fst.snd.snd.fst.snd.snd.1) (x.fst.snd.snd.fst.snd.snd.snd.1) (x.fst.snd.snd.fst.snd.snd.snd.snd.1) (x.fst.snd.snd.fst.snd.snd.snd.snd.2) (x.fst.snd.snd.snd.1) (x.fst.snd.snd.snd.2) (x.snd.1) (x.snd.snd.1) (x.snd.snd.snd.fst.fst.1) (x.snd.snd.snd.fst.fst.snd.1) (x.snd.snd.snd.fst.fst.snd.snd.1) (x.snd.snd.snd.fst.fst.snd.snd.2) (x.snd.snd.snd.fst.snd.fst.1) (x.snd.snd.snd.fst.snd.fst.snd.1) (x.snd.snd.snd.fst.snd.fst.snd.snd.1) (x.snd.snd.snd.fst.snd.fst.snd.snd.2) (x.snd.snd.snd.fst.snd.snd.1) (x.snd.snd.snd.fst.snd.snd.snd.1) (x.snd.snd.snd.fst.snd.snd.snd.snd.1) (x.snd.snd.snd.fst.snd.snd.snd.snd.2) (x.snd.snd.snd.snd.1) (x.snd.snd.snd.snd.2)
def tendrilref07_Same (x : ((List Int) × ((List Int) × ((((List Int) × ((List Int) × ((List Int) × (List Int)))) × (((List Int) × ((List Int) × ((List Int) × (List Int)))) × ((List Int) × ((List Int) × ((List Int) × (List Int)))))) × (Int × (List Int))))) × ((List Int) × ((List Int) × ((((List Int) × ((List Int) × ((List Int) × (List Int)))) × (((List Int) × ((List Int) × ((List Int) × (List Int)))) × ((List Int) × ((List Int) × ((List Int) × (List Int)))))) × (Int × (List Int)))))) : Option (Bool) := tendrilref07_Same_K 2000000 x
def tendrilref07_Same_S : Sig := ⟨[⟨true, (.pair (.sl .int) (.pair (.sl .int) (.pair (.pair (.pair (.sl .int) (.pair (.sl .int) (.pair (.sl .int) (.sl .int)))) (.pair (.pair (.sl .int) (.pair (.sl .int) (.pair (.sl .int) (.sl .int)))) (.pair (.sl .int) (.pair (.sl .int) (.pair (.sl .int) (.sl .int)))))) (.pair .int (.sl .int)))))⟩, ⟨true, (.pair (.sl .int) (.pair (.sl .int) (.pair (.pair (.pair (.sl .int) (.pair (.sl .int) (.pair (.sl .int) (.sl .int)))) (.pair (.pair (.sl .int) (.pair (.sl .int) (.pair (.sl .int) (.sl .int)))) (.pair (.sl .int) (.pair (.sl .int) (.pair (.sl .int) (.sl .int)))))) (.pair .int (.sl .int)))))⟩], [⟨false, .bool⟩], false, tendrilref07_Same⟩
/-! tendril/tendrilref16.SameTouches -/
def tendrilref16_SameTouches_L10 : Nat → (List (Int × Int × Int × Int × Int × Int × Int × Bool)) → (List (Int × Int × Int × Int × Int × Int × Int × Bool)) → (Int) → (Int) → Option (Bool)
  | 0, _, _, _, _ => none
  | k + 1, p0, p1, p2, p3 =>
    bif Decidable.decide (p3 < p2) then
      bif Decidable.decide ((0 : Int) ≤ p3) then
        bif Decidable.decide (p3 < (↑p0.length : Int)) then
          bif Decidable.decide ((0 : Int) ≤ p3) then
            bif Decidable.decide (p3 < (↑p1.length : Int)) then
              bif !((p0.getD p3.toNat ((0 : Int), ((0 : Int), ((0 : Int), ((0 : Int), ((0 : Int), ((0 : Int), ((0 : Int), Bool.false)))))))).1 == (p1.getD p3.toNat ((0 : Int), ((0 : Int), ((0 : Int), ((0 : Int), ((0 : Int), ((0 : Int), ((0 : Int), Bool.false)))))))).1 && ((p0.getD p3.toNat ((0 : Int), ((0 : Int), ((0 : Int), ((0 : Int), ((0 : Int), ((0 : Int), ((0 : Int), Bool.false)))))))).snd.1 == (p1.getD p3.toNat ((0 : Int), ((0 : Int), ((0 : Int), ((0 : Int), ((0 : Int), ((0 : Int), ((0 : Int), Bool.false)))))))).snd.1 && ((p0.getD p3.toNat ((0 : Int), ((0 : Int), ((0 : Int), ((0 : Int), ((0 : Int), ((0 : Int), ((0 : Int), Bool.false)))))))).snd.snd.1 == (p1.getD p3.toNat ((0 : Int), ((0 : Int), ((0 : Int), ((0 : Int), ((0 : Int), ((0 : Int), ((0 : Int), Bool.false)))))))).snd.snd.1 && ((p0.getD p3.toNat ((0 : Int), ((0 : Int), ((0 : Int), ((0 : Int), ((0 : Int), ((0 : Int), ((0 : Int), Bool.false)))))))).snd.snd.snd.1 == (p1.getD p3.toNat ((0 : Int), ((0 : Int), ((0 : Int), ((0 : Int), ((0 : Int), ((0 : Int), ((0 : Int), Bool.false)))))))).snd.snd.snd.1 && ((p0.getD p3.toNat ((0 : Int), ((0 : Int), ((0 : Int), ((0 : Int), ((0 : Int), ((0 : Int), ((0 : Int), Bool.false)))))))).snd.snd.snd.snd.1 == (p1.getD p3.toNat ((0 : Int), ((0 : Int), ((0 : Int), ((0 : Int), ((0 : Int), ((0 : Int), ((0 : Int), Bool.false)))))))).snd.snd.snd.snd.1 && ((p0.getD p3.toNat ((0 : Int), ((0 : Int), ((0 : Int), ((0 : Int), ((0 : Int), ((0 : Int), ((0 : Int), Bool.false)))))))).snd.snd.snd.snd.snd.1 == (p1.getD p3.toNat ((0 : Int), ((0 : Int), ((0 : Int), ((0 : Int), ((0 : Int), ((0 : Int), ((0 : Int), Bool.false)))))))).snd.snd.snd.snd.snd.1 && ((p0.getD p3.toNat ((0 : Int), ((0 : Int), ((0 : Int), ((0 : Int), ((0 : Int), ((0 : Int), ((0 : Int), Bool.false)))))))).snd.snd.snd.snd.snd.snd.1 == (p1.getD p3.toNat ((0 : Int), ((0 : Int), ((0 : Int), ((0 : Int), ((0 : Int), ((0 : Int), ((0 : Int), Bool.false)))))))).snd.snd.snd.snd.snd.snd.1 && ((p0.getD p3.toNat ((0 : Int), ((0 : Int), ((0 : Int), ((0 : Int), ((0 : Int), ((0 : Int), ((0 : Int), Bool.false)))))))).snd.snd.snd.snd.snd.snd.2 == (p1.getD p3.toNat ((0 : Int), ((0 : Int), ((0 : Int), ((0 : Int), ((0 : Int), ((0 : Int), ((0 : Int), Bool.false)))))))).snd.snd.snd.snd.snd.snd.2 && Bool.true)))))))) then
                some (Bool.false)
              else
                tendrilref16_SameTouches_L10 k (p0) (p1) (p2) (Go.RowKit.wrap64 (p3 + (1 : Int)))
            else
              none
          else
            none
        else
          none
      else
        none
    else
      some (Bool.true)
def tendrilref16_SameTouches_K (K : Nat) (x : List (Int × Int × Int × Int × Int × Int × Int × Bool) × List (Int × Int × Int × Int × Int × Int × Int × Bool)) : Option (Bool) :=
  bif (↑(List.length x.1) : Int) != (↑(List.length x.2) : Int) then
    some (Bool.false)
  else
    tendrilref16_SameTouches_L10 K (x.1) (x.2) ((↑(List.length x.1) : Int)) ((0 : Int))
def tendrilref16_SameTouches (x : (List (Int × (Int × (Int × (Int × (Int × (Int × (Int × Bool)))))))) × (List (Int × (Int × (Int × (Int × (Int × (Int × (Int × Bool))))))))) : Option (Bool) := tendrilref16_SameTouches_K 2000000 x
def tendrilref16_SameTouches_S : Sig := ⟨[⟨false, (.sl (.pair .int (.pair .int (.pair .int (.pair .int (.pair .int (.pair .int (.pair .int .bool))))))))⟩, ⟨false, (.sl (.pair .int (.pair .int (.pair .int (.pair .int (.pair .int (.pair .int (.pair .int .bool))))))))⟩], [⟨false, .bool⟩], false, tendrilref16_SameTouches⟩
/-! tendril/tendrillaw16.AskDoes -/
def tendrillaw16_AskDoes (x : (Int × Int × Int × Int × Int) × (List Int × List Int × ((List Int × List Int × List Int × List Int) × (List Int × List Int × List Int × List Int) × List Int × List Int × List Int × List Int) × Int × List Int) × Int × Int × Int × Int × Int × Int × Int) : Option (Bool) :=
  (tendrillaw16_live (())).bind fun r0 =>
  bif !r0 then
    some (Bool.false)
  else
    (tendrilref07_Few ((x.snd.fst.1, x.snd.fst.snd.1, ((x.snd.fst.snd.snd.fst.fst.1, x.snd.fst.snd.snd.fst.fst.snd.1, x.snd.fst.snd.snd.fst.fst.snd.snd.1, x.snd.fst.snd.snd.fst.fst.snd.snd.2), (x.snd.fst.snd.snd.fst.snd.fst.1, x.snd.fst.snd.snd.fst.snd.fst.snd.1, x.snd.fst.snd.snd.fst.snd.fst.snd.snd.1, x.snd.fst.snd.snd.fst.snd.fst.snd.snd.2), x.snd.fst.snd.snd.fst.snd.snd.1, x.snd.fst.snd.snd.fst.snd.snd.snd.1, x.snd.fst.snd.snd.fst.snd.snd.snd.snd.1, x.snd.fst.snd.snd.fst.snd.snd.snd.snd.2), x.snd.fst.snd.snd.snd.1, x.snd.fst.snd.snd.snd.2))).bind fun r1 =>
    bif !r1 then
      some (Bool.true)
    else
      (tendrilref02_Copy (x.snd.fst.1)).bind fun r2 =>
      (tendrilref02_Copy (x.snd.fst.snd.1)).bind fun r3 =>
      (ask_Do (((x.fst.1, x.fst.snd.1, x.fst.snd.snd.1, x.fst.snd.snd.snd.1, x.fst.snd.snd.snd.2), (x.snd.fst.1, x.snd.fst.snd.1, ((x.snd.fst.snd.snd.fst.fst.1, x.snd.fst.snd.snd.fst.fst.snd.1, x.snd.fst.snd.snd.fst.fst.snd.snd.1, x.snd.fst.snd.snd.fst.fst.snd.snd.2), (x.snd.fst.snd.snd.fst.snd.fst.1, x.snd.fst.snd.snd.fst.snd.fst.snd.1, x.snd.fst.snd.snd.fst.snd.fst.snd.snd.1, x.snd.fst.snd.snd.fst.snd.fst.snd.snd.2), x.snd.fst.snd.snd.fst.snd.snd.1, x.snd.fst.snd.snd.fst.snd.snd.snd.1, x.snd.fst.snd.snd.fst.snd.snd.snd.snd.1, x.snd.fst.snd.snd.fst.snd.snd.snd.snd.2), x.snd.fst.snd.snd.snd.1, x.snd.fst.snd.snd.snd.2), x.snd.snd.1, x.snd.snd.snd.1, x.snd.snd.snd.snd.1, x.snd.snd.snd.snd.snd.1, x.snd.snd.snd.snd.snd.snd.1, x.snd.snd.snd.snd.snd.snd.snd.1, x.snd.snd.snd.snd.snd.snd.snd.2))).bind fun r4 =>
      (tendrilref16_Do (((x.fst.1, x.fst.snd.1, x.fst.snd.snd.1, x.fst.snd.snd.snd.1, x.fst.snd.snd.snd.2), (x.snd.fst.1, x.snd.fst.snd.1, ((x.snd.fst.snd.snd.fst.fst.1, x.snd.fst.snd.snd.fst.fst.snd.1, x.snd.fst.snd.snd.fst.fst.snd.snd.1, x.snd.fst.snd.snd.fst.fst.snd.snd.2), (x.snd.fst.snd.snd.fst.snd.fst.1, x.snd.fst.snd.snd.fst.snd.fst.snd.1, x.snd.fst.snd.snd.fst.snd.fst.snd.snd.1, x.snd.fst.snd.snd.fst.snd.fst.snd.snd.2), x.snd.fst.snd.snd.fst.snd.snd.1, x.snd.fst.snd.snd.fst.snd.snd.snd.1, x.snd.fst.snd.snd.fst.snd.snd.snd.snd.1, x.snd.fst.snd.snd.fst.snd.snd.snd.snd.2), x.snd.fst.snd.snd.snd.1, x.snd.fst.snd.snd.snd.2), x.snd.snd.1, x.snd.snd.snd.1, x.snd.snd.snd.snd.1, x.snd.snd.snd.snd.snd.1, x.snd.snd.snd.snd.snd.snd.1, x.snd.snd.snd.snd.snd.snd.snd.1, x.snd.snd.snd.snd.snd.snd.snd.2))).bind fun r5 =>
      (tendrilref07_Same (((r4.fst.1, r4.fst.snd.1, ((r4.fst.snd.snd.fst.fst.1, r4.fst.snd.snd.fst.fst.snd.1, r4.fst.snd.snd.fst.fst.snd.snd.1, r4.fst.snd.snd.fst.fst.snd.snd.2), (r4.fst.snd.snd.fst.snd.fst.1, r4.fst.snd.snd.fst.snd.fst.snd.1, r4.fst.snd.snd.fst.snd.fst.snd.snd.1, r4.fst.snd.snd.fst.snd.fst.snd.snd.2), r4.fst.snd.snd.fst.snd.snd.1, r4.fst.snd.snd.fst.snd.snd.snd.1, r4.fst.snd.snd.fst.snd.snd.snd.snd.1, r4.fst.snd.snd.fst.snd.snd.snd.snd.2), r4.fst.snd.snd.snd.1, r4.fst.snd.snd.snd.2), r5.fst.1, r5.fst.snd.1, ((r5.fst.snd.snd.fst.fst.1, r5.fst.snd.snd.fst.fst.snd.1, r5.fst.snd.snd.fst.fst.snd.snd.1, r5.fst.snd.snd.fst.fst.snd.snd.2), (r5.fst.snd.snd.fst.snd.fst.1, r5.fst.snd.snd.fst.snd.fst.snd.1, r5.fst.snd.snd.fst.snd.fst.snd.snd.1, r5.fst.snd.snd.fst.snd.fst.snd.snd.2), r5.fst.snd.snd.fst.snd.snd.1, r5.fst.snd.snd.fst.snd.snd.snd.1, r5.fst.snd.snd.fst.snd.snd.snd.snd.1, r5.fst.snd.snd.fst.snd.snd.snd.snd.2), r5.fst.snd.snd.snd.1, r5.fst.snd.snd.snd.2))).bind fun r6 =>
      bif r6 then
        bif r4.snd.1 == r5.snd.1 then
          (tendrilref16_SameTouches ((r4.snd.snd.1, r5.snd.snd.1))).bind fun r7 =>
          bif r7 then
            bif r4.snd.snd.2 == r5.snd.snd.2 then
              (tendrilref07_Same (((x.snd.fst.1, x.snd.fst.snd.1, ((x.snd.fst.snd.snd.fst.fst.1, x.snd.fst.snd.snd.fst.fst.snd.1, x.snd.fst.snd.snd.fst.fst.snd.snd.1, x.snd.fst.snd.snd.fst.fst.snd.snd.2), (x.snd.fst.snd.snd.fst.snd.fst.1, x.snd.fst.snd.snd.fst.snd.fst.snd.1, x.snd.fst.snd.snd.fst.snd.fst.snd.snd.1, x.snd.fst.snd.snd.fst.snd.fst.snd.snd.2), x.snd.fst.snd.snd.fst.snd.snd.1, x.snd.fst.snd.snd.fst.snd.snd.snd.1, x.snd.fst.snd.snd.fst.snd.snd.snd.snd.1, x.snd.fst.snd.snd.fst.snd.snd.snd.snd.2), x.snd.fst.snd.snd.snd.1, x.snd.fst.snd.snd.snd.2), r2, r3, ((x.snd.fst.snd.snd.fst.fst.1, x.snd.fst.snd.snd.fst.fst.snd.1, x.snd.fst.snd.snd.fst.fst.snd.snd.1, x.snd.fst.snd.snd.fst.fst.snd.snd.2), (x.snd.fst.snd.snd.fst.snd.fst.1, x.snd.fst.snd.snd.fst.snd.fst.snd.1, x.snd.fst.snd.snd.fst.snd.fst.snd.snd.1, x.snd.fst.snd.snd.fst.snd.fst.snd.snd.2), x.snd.fst.snd.snd.fst.snd.snd.1, x.snd.fst.snd.snd.fst.snd.snd.snd.1, x.snd.fst.snd.snd.fst.snd.snd.snd.snd.1, x.snd.fst.snd.snd.fst.snd.snd.snd.snd.2), x.snd.fst.snd.snd.snd.1, x.snd.fst.snd.snd.snd.2))).bind fun r8 =>
              some (r8)
            else
              some (Bool.false)
          else
            some (Bool.false)
        else
          some (Bool.false)
      else
        some (Bool.false)
def tendrillaw16_AskDoes_S : Sig := ⟨[⟨true, (.pair .int (.pair .int (.pair .int (.pair .int .int))))⟩, ⟨true, (.pair (.sl .int) (.pair (.sl .int) (.pair (.pair (.pair (.sl .int) (.pair (.sl .int) (.pair (.sl .int) (.sl .int)))) (.pair (.pair (.sl .int) (.pair (.sl .int) (.pair (.sl .int) (.sl .int)))) (.pair (.sl .int) (.pair (.sl .int) (.pair (.sl .int) (.sl .int)))))) (.pair .int (.sl .int)))))⟩, ⟨false, .int⟩, ⟨true, (.pair .int (.pair .int (.pair .int (.pair .int (.pair .int .int)))))⟩], [⟨false, .bool⟩], false, tendrillaw16_AskDoes⟩
end Go.Proofs.YtcoiboghdmmdcadGreatFn
