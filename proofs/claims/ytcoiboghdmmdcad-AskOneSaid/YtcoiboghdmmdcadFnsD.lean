/- What the functions that this seat's laws reach compute, as plain functions, the last of them; no condition. -/
import Derived.Test.YtcoiboghdmmdcadProg
import Derived.KernelRfl
import Derived.Test.YtcoiboghdmmdcadPx25
import Derived.Test.YtcoiboghdmmdcadFnsDa
set_option linter.unusedVariables false
set_option linter.unusedSimpArgs false
namespace Go.Proofs.YtcoiboghdmmdcadFn
open Go Go.RowKit Go.Proofs.YtcoiboghdmmdcadPx
/-! tendril/tendrilref05.Few -/
def tendrilref05_Few (x : List Int × List Int × List Int × List Int) : Option (Bool) :=
  bif Decidable.decide ((↑(List.length x.1) : Int) ≤ (200 : Int)) then
    bif Decidable.decide ((↑(List.length x.snd.1) : Int) ≤ (200 : Int)) then
      bif Decidable.decide ((↑(List.length x.snd.snd.1) : Int) ≤ (200 : Int)) then
        some (Decidable.decide ((↑(List.length x.snd.snd.2) : Int) ≤ (200 : Int)))
      else
        some (Bool.false)
    else
      some (Bool.false)
  else
    some (Bool.false)
def tendrilref05_Few_S : Sig := ⟨[⟨true, (.pair (.sl .int) (.pair (.sl .int) (.pair (.sl .int) (.sl .int))))⟩], [⟨false, .bool⟩], false, tendrilref05_Few⟩
/-! tendril/tendrilref07.Few -/
def tendrilref07_Few_L6 : Nat → (List Int) → (List Int) → (List Int) → (List Int) → (List Int) → (List Int) → (List Int) → (List Int) → (List Int) → (List Int) → (List Int) → (List Int) → (Int) → (List Int) → (List Int) → (List Int) → (List Int) → (List Int) → (List Int) → (List Int) → (List Int) → (List Int) → (List Int) → (List Int) → (List Int) → (List Int) → (List Int) → (Int) → (List Int) → Option (Bool)
  | 0, _, _, _, _, _, _, _, _, _, _, _, _, _, _, _, _, _, _, _, _, _, _, _, _, _, _, _, _, _ => none
  | k + 1, p0, p1, p2, p3, p4, p5, p6, p7, p8, p9, p10, p11, p12, p13, p14, p15, p16, p17, p18, p19, p20, p21, p22, p23, p24, p25, p26, p27, p28 =>
    bif Decidable.decide (p12 < (3 : Int)) then
      bif Decidable.decide (p12 = (↑(nat_lit 2) : Int)) then
        (tendrilref05_Few ((p8, p9, p10, p11))).bind fun r0 =>
        bif !r0 then
          some (Bool.false)
        else
          tendrilref07_Few_L6 k (p0) (p1) (p2) (p3) (p4) (p5) (p6) (p7) (p8) (p9) (p10) (p11) (Go.RowKit.wrap64 (p12 + (1 : Int))) (p13) (p14) (p15) (p16) (p17) (p18) (p19) (p20) (p21) (p22) (p23) (p24) (p25) (p26) (p27) (p28)
      else
        bif Decidable.decide (p12 = (↑(nat_lit 1) : Int)) then
          (tendrilref05_Few ((p4, p5, p6, p7))).bind fun r1 =>
          bif !r1 then
            some (Bool.false)
          else
            tendrilref07_Few_L6 k (p0) (p1) (p2) (p3) (p4) (p5) (p6) (p7) (p8) (p9) (p10) (p11) (Go.RowKit.wrap64 (p12 + (1 : Int))) (p13) (p14) (p15) (p16) (p17) (p18) (p19) (p20) (p21) (p22) (p23) (p24) (p25) (p26) (p27) (p28)
        else
          bif Decidable.decide (p12 = (↑(nat_lit 0) : Int)) then
            (tendrilref05_Few ((p0, p1, p2, p3))).bind fun r2 =>
            bif !r2 then
              some (Bool.false)
            else
              tendrilref07_Few_L6 k (p0) (p1) (p2) (p3) (p4) (p5) (p6) (p7) (p8) (p9) (p10) (p11) (Go.RowKit.wrap64 (p12 + (1 : Int))) (p13) (p14) (p15) (p16) (p17) (p18) (p19) (p20) (p21) (p22) (p23) (p24) (p25) (p26) (p27) (p28)
          else
            none
    else
      bif Decidable.decide ((↑p28.length : Int) ≤ (200 : Int)) then
        bif Decidable.decide ((↑p13.length : Int) ≤ (2000 : Int)) then
          some (Decidable.decide ((↑p14.length : Int) ≤ (200 : Int)))
        else
          some (Bool.false)
      else
        some (Bool.false)
def tendrilref07_Few_K (K : Nat) (x : List Int × List Int × ((List Int × List Int × List Int × List Int) × (List Int × List Int × List Int × List Int) × List Int × List Int × List Int × List Int) × Int × List Int) : Option (Bool) :=
  tendrilref07_Few_L6 K (x.snd.snd.fst.fst.1) (x.snd.snd.fst.fst.snd.1) (x.snd.snd.fst.fst.snd.snd.1) (x.snd.snd.fst.fst.snd.snd.2) (x.snd.snd.fst.snd.fst.1) (x.snd.snd.fst.snd.fst.snd.1) (x.snd.snd.fst.snd.fst.snd.snd.1) (x.snd.snd.fst.snd.fst.snd.snd.2) (x.snd.snd.fst.snd.snd.1) (x.snd.snd.fst.snd.snd.snd.1) (x.snd.snd.fst.snd.snd.snd.snd.1) (x.snd.snd.fst.snd.snd.snd.snd.2) ((0 : Int)) (x.1) (x.snd.1) (x.snd.snd.fst.fst.1) (x.snd.snd.fst.fst.snd.1) (x.snd.snd.fst.fst.snd.snd.1) (x.snd.snd.fst.fst.snd.snd.2) (x.snd.snd.fst.snd.fst.1) (x.snd.snd.fst.snd.fst.snd.1) (x.snd.snd.fst.snd.fst.snd.snd.1) (x.snd.snd.fst.snd.fst.snd.snd.2) (x.snd.snd.fst.snd.snd.1) (x.snd.snd.fst.snd.snd.snd.1) (x.snd.snd.fst.snd.snd.snd.snd.1) (x.snd.snd.fst.snd.snd.snd.snd.2) (x.snd.snd.snd.1) (x.snd.snd.snd.2)
def tendrilref07_Few (x : ((List Int) × ((List Int) × ((((List Int) × ((List Int) × ((List Int) × (List Int)))) × (((List Int) × ((List Int) × ((List Int) × (List Int)))) × ((List Int) × ((List Int) × ((List Int) × (List Int)))))) × (Int × (List Int)))))) : Option (Bool) := tendrilref07_Few_K 2000000 x
def tendrilref07_Few_S : Sig := ⟨[⟨true, (.pair (.sl .int) (.pair (.sl .int) (.pair (.pair (.pair (.sl .int) (.pair (.sl .int) (.pair (.sl .int) (.sl .int)))) (.pair (.pair (.sl .int) (.pair (.sl .int) (.pair (.sl .int) (.sl .int)))) (.pair (.sl .int) (.pair (.sl .int) (.pair (.sl .int) (.sl .int)))))) (.pair .int (.sl .int)))))⟩], [⟨false, .bool⟩], false, tendrilref07_Few⟩
/-! tendril/tendrilref06.New -/
mutual
def tendrilref06_New_L12 : Nat → (Int) → (Int) → (Int) → (Int) → Option ((Int × List Int) × Int)
  | 0, _, _, _, _ => none
  | k + 1, p0, p1, p2, p3 =>
    bif Decidable.decide (p1 < p0) then
      tendrilref06_New_L12x1 k (p0) (Go.RowKit.wrap64 (p1 + (1 : Int))) (p2) (p3) ([(-1 : Int)])
    else
      some (((p3, []), (0 : Int)))
def tendrilref06_New_L12x1 : Nat → (Int) → (Int) → (Int) → (Int) → (List Int) → Option ((Int × List Int) × Int)
  | 0, _, _, _, _, _ => none
  | k + 1, p0, p1, p2, p3, p4 =>
    bif Decidable.decide (p1 < p0) then
      bif Decidable.decide (p4.length + [(-1 : Int)].length ≤ (1000000 : Nat)) then
        tendrilref06_New_L12x1 k (p0) (Go.RowKit.wrap64 (p1 + (1 : Int))) (p2) (p3) (p4 ++ [(-1 : Int)])
      else
        none
    else
      some (((p3, p4), (0 : Int)))
end
def tendrilref06_New_K (K : Nat) (x : Int) : Option ((Int × List Int) × Int) :=
  bif Decidable.decide (x < (1 : Int)) then
    some ((((0 : Int), []), (1 : Int)))
  else
    bif Decidable.decide ((64 : Int) < x) then
      some ((((0 : Int), []), (1 : Int)))
    else
      tendrilref06_New_L12 K (x) ((0 : Int)) ((0 : Int)) ((0 : Int))
def tendrilref06_New (x : Int) : Option ((Int × (List Int)) × Int) := tendrilref06_New_K 2000000 x
def tendrilref06_New_S : Sig := ⟨[⟨false, .int⟩], [⟨true, (.pair .int (.sl .int))⟩, ⟨false, .int⟩], true, tendrilref06_New⟩
/-! tendril/tendrilref03.Check -/
def tendrilref03_Check_L6 : Nat → (Int) → (Int) → (List Int) → Option (Int)
  | 0, _, _, _ => none
  | k + 1, p0, p1, p2 =>
    bif Decidable.decide (p1 < p0) then
      bif Decidable.decide ((0 : Int) ≤ p1) then
        bif Decidable.decide (p1 < (↑p2.length : Int)) then
          bif Decidable.decide (p2.getD p1.toNat (0 : Int) < (1 : Int)) then
            some ((1 : Int))
          else
            bif Decidable.decide ((64 : Int) < p2.getD p1.toNat (0 : Int)) then
              some ((1 : Int))
            else
              tendrilref03_Check_L6 k (p0) (Go.RowKit.wrap64 (p1 + (1 : Int))) (p2)
        else
          none
      else
        none
    else
      some ((0 : Int))
def tendrilref03_Check_K (K : Nat) (x : Int × Int × Int × Int × Int) : Option (Int) :=
  tendrilref03_Check_L6 K ((↑([x.1, x.snd.1, x.snd.snd.1, x.snd.snd.snd.1, x.snd.snd.snd.2]).length : Int)) ((0 : Int)) ([x.1, x.snd.1, x.snd.snd.1, x.snd.snd.snd.1, x.snd.snd.snd.2])
def tendrilref03_Check (x : (Int × (Int × (Int × (Int × Int))))) : Option (Int) := tendrilref03_Check_K 2000000 x
def tendrilref03_Check_S : Sig := ⟨[⟨true, (.pair .int (.pair .int (.pair .int (.pair .int .int))))⟩], [⟨false, .int⟩], false, tendrilref03_Check⟩
/-! tendril/tendrilref03.Cap -/
def tendrilref03_Cap (x : (Int × Int × Int × Int × Int) × Int) : Option (Int × Int) :=
  bif x.2 == (1 : Int) then
    some ((x.fst.1, (4 : Int)))
  else
    bif x.2 == (2 : Int) then
      some ((x.fst.snd.1, (5 : Int)))
    else
      bif x.2 == (3 : Int) then
        some ((x.fst.snd.snd.1, (3 : Int)))
      else
        some (((0 : Int), (0 : Int)))
def tendrilref03_Cap_S : Sig := ⟨[⟨true, (.pair .int (.pair .int (.pair .int (.pair .int .int))))⟩, ⟨false, .int⟩], [⟨false, .int⟩, ⟨false, .int⟩], false, tendrilref03_Cap⟩
/-! tendril/tendrilref05.New -/
mutual
def tendrilref05_New_L12 : Nat → (Int) → (Int) → (List Int) → (List Int) → (List Int) → Option ((List Int × List Int × List Int × List Int) × Int)
  | 0, _, _, _, _, _ => none
  | k + 1, p0, p1, p2, p3, p4 =>
    bif Decidable.decide (p1 < p0) then
      tendrilref05_New_L12x1 k (p0) (Go.RowKit.wrap64 (p1 + (1 : Int))) (p2) (p3) (p4) ([p1])
    else
      some (((p2, p3, p4, []), (0 : Int)))
def tendrilref05_New_L12x1 : Nat → (Int) → (Int) → (List Int) → (List Int) → (List Int) → (List Int) → Option ((List Int × List Int × List Int × List Int) × Int)
  | 0, _, _, _, _, _, _ => none
  | k + 1, p0, p1, p2, p3, p4, p5 =>
    bif Decidable.decide (p1 < p0) then
      bif Decidable.decide (p5.length + [p1].length ≤ (1000000 : Nat)) then
        tendrilref05_New_L12x1 k (p0) (Go.RowKit.wrap64 (p1 + (1 : Int))) (p2) (p3) (p4) (p5 ++ [p1])
      else
        none
    else
      some (((p2, p3, p4, p5), (0 : Int)))
end
def tendrilref05_New_K (K : Nat) (x : Int) : Option ((List Int × List Int × List Int × List Int) × Int) :=
  bif Decidable.decide (x < (1 : Int)) then
    some ((([], [], [], []), (1 : Int)))
  else
    bif Decidable.decide ((64 : Int) < x) then
      some ((([], [], [], []), (1 : Int)))
    else
      bif Decidable.decide ((0 : Int) ≤ x) then
        bif Decidable.decide (x ≤ (1000000 : Int)) then
          bif Decidable.decide ((0 : Int) ≤ x) then
            bif Decidable.decide (x ≤ (1000000 : Int)) then
              bif Decidable.decide ((0 : Int) ≤ x) then
                bif Decidable.decide (x ≤ (1000000 : Int)) then
                  tendrilref05_New_L12 K (x) ((0 : Int)) (List.replicate (Int.toNat x) (0 : Int)) (List.replicate (Int.toNat x) (0 : Int)) (List.replicate (Int.toNat x) (0 : Int))
                else
                  none
              else
                none
            else
              none
          else
            none
        else
          none
      else
        none
def tendrilref05_New (x : Int) : Option (((List Int) × ((List Int) × ((List Int) × (List Int)))) × Int) := tendrilref05_New_K 2000000 x
def tendrilref05_New_S : Sig := ⟨[⟨false, .int⟩], [⟨true, (.pair (.sl .int) (.pair (.sl .int) (.pair (.sl .int) (.sl .int))))⟩, ⟨false, .int⟩], true, tendrilref05_New⟩
/-! tendril/tendrilref07.New -/
mutual
def tendrilref07_New_L14 : Nat → (Int) → (Int) → (Int) → (Int) → (Int) → (Int) → (Int) → (Int) → (List Int) → Option ((List Int × List Int × ((List Int × List Int × List Int × List Int) × (List Int × List Int × List Int × List Int) × List Int × List Int × List Int × List Int) × Int × List Int) × Int)
  | 0, _, _, _, _, _, _, _, _, _ => none
  | k + 1, p0, p1, p2, p3, p4, p5, p6, p7, p8 =>
    bif Decidable.decide (p0 < (3 : Int)) then
      (tendrilref03_Cap (((p1, p2, p3, p4, p5), Go.RowKit.wrap64 (p0 + (1 : Int))))).bind fun r2 =>
      (tendrilref05_New (r2.1)).bind fun r3 =>
      bif Decidable.decide (p0 = (↑(nat_lit 2) : Int)) then
        tendrilref07_New_L14x1 k (Go.RowKit.wrap64 (p0 + (1 : Int))) (p1) (p2) (p3) (p4) (p5) (p6) (p7) (r3.fst.1) (r3.fst.snd.1) (r3.fst.snd.snd.1) (r3.fst.snd.snd.2) (p8)
      else
        bif Decidable.decide (p0 = (↑(nat_lit 1) : Int)) then
          tendrilref07_New_L14x2 k (Go.RowKit.wrap64 (p0 + (1 : Int))) (p1) (p2) (p3) (p4) (p5) (p6) (p7) (r3.fst.1) (r3.fst.snd.1) (r3.fst.snd.snd.1) (r3.fst.snd.snd.2) (p8)
        else
          bif Decidable.decide (p0 = (↑(nat_lit 0) : Int)) then
            tendrilref07_New_L14x3 k (Go.RowKit.wrap64 (p0 + (1 : Int))) (p1) (p2) (p3) (p4) (p5) (p6) (p7) (r3.fst.1) (r3.fst.snd.1) (r3.fst.snd.snd.1) (r3.fst.snd.snd.2) (p8)
          else
            none
    else
      some ((([], [], (([], [], [], []), ([], [], [], []), [], [], [], []), p7, p8), (0 : Int)))
def tendrilref07_New_L14x1 : Nat → (Int) → (Int) → (Int) → (Int) → (Int) → (Int) → (Int) → (Int) → (List Int) → (List Int) → (List Int) → (List Int) → (List Int) → Option ((List Int × List Int × ((List Int × List Int × List Int × List Int) × (List Int × List Int × List Int × List Int) × List Int × List Int × List Int × List Int) × Int × List Int) × Int)
  | 0, _, _, _, _, _, _, _, _, _, _, _, _, _ => none
  | k + 1, p0, p1, p2, p3, p4, p5, p6, p7, p8, p9, p10, p11, p12 =>
    bif Decidable.decide (p0 < (3 : Int)) then
      (tendrilref03_Cap (((p1, p2, p3, p4, p5), Go.RowKit.wrap64 (p0 + (1 : Int))))).bind fun r4 =>
      (tendrilref05_New (r4.1)).bind fun r5 =>
      bif Decidable.decide (p0 = (↑(nat_lit 2) : Int)) then
        tendrilref07_New_L14x1 k (Go.RowKit.wrap64 (p0 + (1 : Int))) (p1) (p2) (p3) (p4) (p5) (p6) (p7) (r5.fst.1) (r5.fst.snd.1) (r5.fst.snd.snd.1) (r5.fst.snd.snd.2) (p12)
      else
        bif Decidable.decide (p0 = (↑(nat_lit 1) : Int)) then
          tendrilref07_New_L14x4 k (Go.RowKit.wrap64 (p0 + (1 : Int))) (p1) (p2) (p3) (p4) (p5) (p6) (p7) (r5.fst.1) (r5.fst.snd.1) (r5.fst.snd.snd.1) (r5.fst.snd.snd.2) (p8) (p9) (p10) (p11) (p12)
        else
          bif Decidable.decide (p0 = (↑(nat_lit 0) : Int)) then
            tendrilref07_New_L14x5 k (Go.RowKit.wrap64 (p0 + (1 : Int))) (p1) (p2) (p3) (p4) (p5) (p6) (p7) (r5.fst.1) (r5.fst.snd.1) (r5.fst.snd.snd.1) (r5.fst.snd.snd.2) (p8) (p9) (p10) (p11) (p12)
          else
            none
    else
      some ((([], [], (([], [], [], []), ([], [], [], []), p8, p9, p10, p11), p7, p12), (0 : Int)))
def tendrilref07_New_L14x2 : Nat → (Int) → (Int) → (Int) → (Int) → (Int) → (Int) → (Int) → (Int) → (List Int) → (List Int) → (List Int) → (List Int) → (List Int) → Option ((List Int × List Int × ((List Int × List Int × List Int × List Int) × (List Int × List Int × List Int × List Int) × List Int × List Int × List Int × List Int) × Int × List Int) × Int)
  | 0, _, _, _, _, _, _, _, _, _, _, _, _, _ => none
  | k + 1, p0, p1, p2, p3, p4, p5, p6, p7, p8, p9, p10, p11, p12 =>
    bif Decidable.decide (p0 < (3 : Int)) then
      (tendrilref03_Cap (((p1, p2, p3, p4, p5), Go.RowKit.wrap64 (p0 + (1 : Int))))).bind fun r6 =>
      (tendrilref05_New (r6.1)).bind fun r7 =>
      bif Decidable.decide (p0 = (↑(nat_lit 2) : Int)) then
        tendrilref07_New_L14x4 k (Go.RowKit.wrap64 (p0 + (1 : Int))) (p1) (p2) (p3) (p4) (p5) (p6) (p7) (p8) (p9) (p10) (p11) (r7.fst.1) (r7.fst.snd.1) (r7.fst.snd.snd.1) (r7.fst.snd.snd.2) (p12)
      else
        bif Decidable.decide (p0 = (↑(nat_lit 1) : Int)) then
          tendrilref07_New_L14x2 k (Go.RowKit.wrap64 (p0 + (1 : Int))) (p1) (p2) (p3) (p4) (p5) (p6) (p7) (r7.fst.1) (r7.fst.snd.1) (r7.fst.snd.snd.1) (r7.fst.snd.snd.2) (p12)
        else
          bif Decidable.decide (p0 = (↑(nat_lit 0) : Int)) then
            tendrilref07_New_L14x6 k (Go.RowKit.wrap64 (p0 + (1 : Int))) (p1) (p2) (p3) (p4) (p5) (p6) (p7) (r7.fst.1) (r7.fst.snd.1) (r7.fst.snd.snd.1) (r7.fst.snd.snd.2) (p8) (p9) (p10) (p11) (p12)
          else
            none
    else
      some ((([], [], (([], [], [], []), (p8, p9, p10, p11), [], [], [], []), p7, p12), (0 : Int)))
def tendrilref07_New_L14x3 : Nat → (Int) → (Int) → (Int) → (Int) → (Int) → (Int) → (Int) → (Int) → (List Int) → (List Int) → (List Int) → (List Int) → (List Int) → Option ((List Int × List Int × ((List Int × List Int × List Int × List Int) × (List Int × List Int × List Int × List Int) × List Int × List Int × List Int × List Int) × Int × List Int) × Int)
  | 0, _, _, _, _, _, _, _, _, _, _, _, _, _ => none
  | k + 1, p0, p1, p2, p3, p4, p5, p6, p7, p8, p9, p10, p11, p12 =>
    bif Decidable.decide (p0 < (3 : Int)) then
      (tendrilref03_Cap (((p1, p2, p3, p4, p5), Go.RowKit.wrap64 (p0 + (1 : Int))))).bind fun r8 =>
      (tendrilref05_New (r8.1)).bind fun r9 =>
      bif Decidable.decide (p0 = (↑(nat_lit 2) : Int)) then
        tendrilref07_New_L14x5 k (Go.RowKit.wrap64 (p0 + (1 : Int))) (p1) (p2) (p3) (p4) (p5) (p6) (p7) (p8) (p9) (p10) (p11) (r9.fst.1) (r9.fst.snd.1) (r9.fst.snd.snd.1) (r9.fst.snd.snd.2) (p12)
      else
        bif Decidable.decide (p0 = (↑(nat_lit 1) : Int)) then
          tendrilref07_New_L14x6 k (Go.RowKit.wrap64 (p0 + (1 : Int))) (p1) (p2) (p3) (p4) (p5) (p6) (p7) (p8) (p9) (p10) (p11) (r9.fst.1) (r9.fst.snd.1) (r9.fst.snd.snd.1) (r9.fst.snd.snd.2) (p12)
        else
          bif Decidable.decide (p0 = (↑(nat_lit 0) : Int)) then
            tendrilref07_New_L14x3 k (Go.RowKit.wrap64 (p0 + (1 : Int))) (p1) (p2) (p3) (p4) (p5) (p6) (p7) (r9.fst.1) (r9.fst.snd.1) (r9.fst.snd.snd.1) (r9.fst.snd.snd.2) (p12)
          else
            none
    else
      some ((([], [], ((p8, p9, p10, p11), ([], [], [], []), [], [], [], []), p7, p12), (0 : Int)))
def tendrilref07_New_L14x4 : Nat → (Int) → (Int) → (Int) → (Int) → (Int) → (Int) → (Int) → (Int) → (List Int) → (List Int) → (List Int) → (List Int) → (List Int) → (List Int) → (List Int) → (List Int) → (List Int) → Option ((List Int × List Int × ((List Int × List Int × List Int × List Int) × (List Int × List Int × List Int × List Int) × List Int × List Int × List Int × List Int) × Int × List Int) × Int)
  | 0, _, _, _, _, _, _, _, _, _, _, _, _, _, _, _, _, _ => none
  | k + 1, p0, p1, p2, p3, p4, p5, p6, p7, p8, p9, p10, p11, p12, p13, p14, p15, p16 =>
    bif Decidable.decide (p0 < (3 : Int)) then
      (tendrilref03_Cap (((p1, p2, p3, p4, p5), Go.RowKit.wrap64 (p0 + (1 : Int))))).bind fun r10 =>
      (tendrilref05_New (r10.1)).bind fun r11 =>
      bif Decidable.decide (p0 = (↑(nat_lit 2) : Int)) then
        tendrilref07_New_L14x4 k (Go.RowKit.wrap64 (p0 + (1 : Int))) (p1) (p2) (p3) (p4) (p5) (p6) (p7) (p8) (p9) (p10) (p11) (r11.fst.1) (r11.fst.snd.1) (r11.fst.snd.snd.1) (r11.fst.snd.snd.2) (p16)
      else
        bif Decidable.decide (p0 = (↑(nat_lit 1) : Int)) then
          tendrilref07_New_L14x4 k (Go.RowKit.wrap64 (p0 + (1 : Int))) (p1) (p2) (p3) (p4) (p5) (p6) (p7) (r11.fst.1) (r11.fst.snd.1) (r11.fst.snd.snd.1) (r11.fst.snd.snd.2) (p12) (p13) (p14) (p15) (p16)
        else
          bif Decidable.decide (p0 = (↑(nat_lit 0) : Int)) then
            tendrilref07_New_L14x7 k (Go.RowKit.wrap64 (p0 + (1 : Int))) (p1) (p2) (p3) (p4) (p5) (p6) (p7) (r11.fst.1) (r11.fst.snd.1) (r11.fst.snd.snd.1) (r11.fst.snd.snd.2) (p8) (p9) (p10) (p11) (p12) (p13) (p14) (p15) (p16)
          else
            none
    else
      some ((([], [], (([], [], [], []), (p8, p9, p10, p11), p12, p13, p14, p15), p7, p16), (0 : Int)))
def tendrilref07_New_L14x5 : Nat → (Int) → (Int) → (Int) → (Int) → (Int) → (Int) → (Int) → (Int) → (List Int) → (List Int) → (List Int) → (List Int) → (List Int) → (List Int) → (List Int) → (List Int) → (List Int) → Option ((List Int × List Int × ((List Int × List Int × List Int × List Int) × (List Int × List Int × List Int × List Int) × List Int × List Int × List Int × List Int) × Int × List Int) × Int)
  | 0, _, _, _, _, _, _, _, _, _, _, _, _, _, _, _, _, _ => none
  | k + 1, p0, p1, p2, p3, p4, p5, p6, p7, p8, p9, p10, p11, p12, p13, p14, p15, p16 =>
    bif Decidable.decide (p0 < (3 : Int)) then
      (tendrilref03_Cap (((p1, p2, p3, p4, p5), Go.RowKit.wrap64 (p0 + (1 : Int))))).bind fun r12 =>
      (tendrilref05_New (r12.1)).bind fun r13 =>
      bif Decidable.decide (p0 = (↑(nat_lit 2) : Int)) then
        tendrilref07_New_L14x5 k (Go.RowKit.wrap64 (p0 + (1 : Int))) (p1) (p2) (p3) (p4) (p5) (p6) (p7) (p8) (p9) (p10) (p11) (r13.fst.1) (r13.fst.snd.1) (r13.fst.snd.snd.1) (r13.fst.snd.snd.2) (p16)
      else
        bif Decidable.decide (p0 = (↑(nat_lit 1) : Int)) then
          tendrilref07_New_L14x7 k (Go.RowKit.wrap64 (p0 + (1 : Int))) (p1) (p2) (p3) (p4) (p5) (p6) (p7) (p8) (p9) (p10) (p11) (r13.fst.1) (r13.fst.snd.1) (r13.fst.snd.snd.1) (r13.fst.snd.snd.2) (p12) (p13) (p14) (p15) (p16)
        else
          bif Decidable.decide (p0 = (↑(nat_lit 0) : Int)) then
            tendrilref07_New_L14x5 k (Go.RowKit.wrap64 (p0 + (1 : Int))) (p1) (p2) (p3) (p4) (p5) (p6) (p7) (r13.fst.1) (r13.fst.snd.1) (r13.fst.snd.snd.1) (r13.fst.snd.snd.2) (p12) (p13) (p14) (p15) (p16)
          else
            none
    else
      some ((([], [], ((p8, p9, p10, p11), ([], [], [], []), p12, p13, p14, p15), p7, p16), (0 : Int)))
def tendrilref07_New_L14x6 : Nat → (Int) → (Int) → (Int) → (Int) → (Int) → (Int) → (Int) → (Int) → (List Int) → (List Int) → (List Int) → (List Int) → (List Int) → (List Int) → (List Int) → (List Int) → (List Int) → Option ((List Int × List Int × ((List Int × List Int × List Int × List Int) × (List Int × List Int × List Int × List Int) × List Int × List Int × List Int × List Int) × Int × List Int) × Int)
  | 0, _, _, _, _, _, _, _, _, _, _, _, _, _, _, _, _, _ => none
  | k + 1, p0, p1, p2, p3, p4, p5, p6, p7, p8, p9, p10, p11, p12, p13, p14, p15, p16 =>
    bif Decidable.decide (p0 < (3 : Int)) then
      (tendrilref03_Cap (((p1, p2, p3, p4, p5), Go.RowKit.wrap64 (p0 + (1 : Int))))).bind fun r14 =>
      (tendrilref05_New (r14.1)).bind fun r15 =>
      bif Decidable.decide (p0 = (↑(nat_lit 2) : Int)) then
        tendrilref07_New_L14x7 k (Go.RowKit.wrap64 (p0 + (1 : Int))) (p1) (p2) (p3) (p4) (p5) (p6) (p7) (p8) (p9) (p10) (p11) (p12) (p13) (p14) (p15) (r15.fst.1) (r15.fst.snd.1) (r15.fst.snd.snd.1) (r15.fst.snd.snd.2) (p16)
      else
        bif Decidable.decide (p0 = (↑(nat_lit 1) : Int)) then
          tendrilref07_New_L14x6 k (Go.RowKit.wrap64 (p0 + (1 : Int))) (p1) (p2) (p3) (p4) (p5) (p6) (p7) (p8) (p9) (p10) (p11) (r15.fst.1) (r15.fst.snd.1) (r15.fst.snd.snd.1) (r15.fst.snd.snd.2) (p16)
        else
          bif Decidable.decide (p0 = (↑(nat_lit 0) : Int)) then
            tendrilref07_New_L14x6 k (Go.RowKit.wrap64 (p0 + (1 : Int))) (p1) (p2) (p3) (p4) (p5) (p6) (p7) (r15.fst.1) (r15.fst.snd.1) (r15.fst.snd.snd.1) (r15.fst.snd.snd.2) (p12) (p13) (p14) (p15) (p16)
          else
            none
    else
      some ((([], [], ((p8, p9, p10, p11), (p12, p13, p14, p15), [], [], [], []), p7, p16), (0 : Int)))
def tendrilref07_New_L14x7 : Nat → (Int) → (Int) → (Int) → (Int) → (Int) → (Int) → (Int) → (Int) → (List Int) → (List Int) → (List Int) → (List Int) → (List Int) → (List Int) → (List Int) → (List Int) → (List Int) → (List Int) → (List Int) → (List Int) → (List Int) → Option ((List Int × List Int × ((List Int × List Int × List Int × List Int) × (List Int × List Int × List Int × List Int) × List Int × List Int × List Int × List Int) × Int × List Int) × Int)
  | 0, _, _, _, _, _, _, _, _, _, _, _, _, _, _, _, _, _, _, _, _, _ => none
  | k + 1, p0, p1, p2, p3, p4, p5, p6, p7, p8, p9, p10, p11, p12, p13, p14, p15, p16, p17, p18, p19, p20 =>
    bif Decidable.decide (p0 < (3 : Int)) then
      (tendrilref03_Cap (((p1, p2, p3, p4, p5), Go.RowKit.wrap64 (p0 + (1 : Int))))).bind fun r16 =>
      (tendrilref05_New (r16.1)).bind fun r17 =>
      bif Decidable.decide (p0 = (↑(nat_lit 2) : Int)) then
        tendrilref07_New_L14x7 k (Go.RowKit.wrap64 (p0 + (1 : Int))) (p1) (p2) (p3) (p4) (p5) (p6) (p7) (p8) (p9) (p10) (p11) (p12) (p13) (p14) (p15) (r17.fst.1) (r17.fst.snd.1) (r17.fst.snd.snd.1) (r17.fst.snd.snd.2) (p20)
      else
        bif Decidable.decide (p0 = (↑(nat_lit 1) : Int)) then
          tendrilref07_New_L14x7 k (Go.RowKit.wrap64 (p0 + (1 : Int))) (p1) (p2) (p3) (p4) (p5) (p6) (p7) (p8) (p9) (p10) (p11) (r17.fst.1) (r17.fst.snd.1) (r17.fst.snd.snd.1) (r17.fst.snd.snd.2) (p16) (p17) (p18) (p19) (p20)
        else
          bif Decidable.decide (p0 = (↑(nat_lit 0) : Int)) then
            tendrilref07_New_L14x7 k (Go.RowKit.wrap64 (p0 + (1 : Int))) (p1) (p2) (p3) (p4) (p5) (p6) (p7) (r17.fst.1) (r17.fst.snd.1) (r17.fst.snd.snd.1) (r17.fst.snd.snd.2) (p12) (p13) (p14) (p15) (p16) (p17) (p18) (p19) (p20)
          else
            none
    else
      some ((([], [], ((p8, p9, p10, p11), (p12, p13, p14, p15), p16, p17, p18, p19), p7, p20), (0 : Int)))
end
def tendrilref07_New_K (K : Nat) (x : (Int × Int × Int × Int × Int) × Int) : Option ((List Int × List Int × ((List Int × List Int × List Int × List Int) × (List Int × List Int × List Int × List Int) × List Int × List Int × List Int × List Int) × Int × List Int) × Int) :=
  (tendrilref06_New (x.2)).bind fun r0 =>
  (tendrilref03_Check ((x.fst.1, x.fst.snd.1, x.fst.snd.snd.1, x.fst.snd.snd.snd.1, x.fst.snd.snd.snd.2))).bind fun r1 =>
  bif r1 != (0 : Int) then
    some ((([], [], (([], [], [], []), ([], [], [], []), [], [], [], []), (0 : Int), []), (1 : Int)))
  else
    bif r0.2 != (0 : Int) then
      some ((([], [], (([], [], [], []), ([], [], [], []), [], [], [], []), (0 : Int), []), (1 : Int)))
    else
      tendrilref07_New_L14 K ((0 : Int)) (x.fst.1) (x.fst.snd.1) (x.fst.snd.snd.1) (x.fst.snd.snd.snd.1) (x.fst.snd.snd.snd.2) ((0 : Int)) (r0.fst.1) (r0.fst.2)
def tendrilref07_New (x : (Int × (Int × (Int × (Int × Int)))) × Int) : Option (((List Int) × ((List Int) × ((((List Int) × ((List Int) × ((List Int) × (List Int)))) × (((List Int) × ((List Int) × ((List Int) × (List Int)))) × ((List Int) × ((List Int) × ((List Int) × (List Int)))))) × (Int × (List Int))))) × Int) := tendrilref07_New_K 2000000 x
def tendrilref07_New_S : Sig := ⟨[⟨true, (.pair .int (.pair .int (.pair .int (.pair .int .int))))⟩, ⟨false, .int⟩], [⟨true, (.pair (.sl .int) (.pair (.sl .int) (.pair (.pair (.pair (.sl .int) (.pair (.sl .int) (.pair (.sl .int) (.sl .int)))) (.pair (.pair (.sl .int) (.pair (.sl .int) (.pair (.sl .int) (.sl .int)))) (.pair (.sl .int) (.pair (.sl .int) (.pair (.sl .int) (.sl .int)))))) (.pair .int (.sl .int)))))⟩, ⟨false, .int⟩], true, tendrilref07_New⟩
/-! tendril/tendrilref03.Size -/
def tendrilref03_Size (x : Int × Int × Int × Int × Int) : Option (Int) :=
  (tendrilref03_Check ((x.1, x.snd.1, x.snd.snd.1, x.snd.snd.snd.1, x.snd.snd.snd.2))).bind fun r0 =>
  bif r0 != (0 : Int) then
    some ((0 : Int))
  else
    some (Go.RowKit.wrap64 (Go.RowKit.wrap64 (Go.RowKit.wrap64 (Go.RowKit.wrap64 (Go.RowKit.wrap64 ((2 : Int) + x.snd.snd.snd.1) + x.snd.snd.snd.2) + Go.RowKit.wrap64 ((4 : Int) * x.1)) + Go.RowKit.wrap64 ((5 : Int) * x.snd.1)) + Go.RowKit.wrap64 ((3 : Int) * x.snd.snd.1)))
def tendrilref03_Size_S : Sig := ⟨[⟨true, (.pair .int (.pair .int (.pair .int (.pair .int .int))))⟩], [⟨false, .int⟩], false, tendrilref03_Size⟩
/-! tendril/tendrilref03.New -/
def tendrilref03_New (x : Int × Int × Int × Int × Int) : Option (List Int × Int) :=
  (tendrilref03_Check ((x.1, x.snd.1, x.snd.snd.1, x.snd.snd.snd.1, x.snd.snd.snd.2))).bind fun r0 =>
  bif r0 != (0 : Int) then
    some (([], r0))
  else
    (tendrilref03_Size ((x.1, x.snd.1, x.snd.snd.1, x.snd.snd.snd.1, x.snd.snd.snd.2))).bind fun r1 =>
    bif Decidable.decide ((0 : Int) ≤ r1) then
      bif Decidable.decide (r1 ≤ (1000000 : Int)) then
        bif Decidable.decide ((0 : Int) < (↑(List.replicate (Int.toNat r1) (0 : Int)).length : Int)) then
          bif Decidable.decide ((1 : Int) < (↑((List.replicate (Int.toNat r1) (0 : Int)).set (Int.toNat (0 : Int)) (1 : Int)).length : Int)) then
            some ((((List.replicate (Int.toNat r1) (0 : Int)).set (Int.toNat (0 : Int)) (1 : Int)).set (Int.toNat (1 : Int)) (1 : Int), (0 : Int)))
          else
            none
        else
          none
      else
        none
    else
      none
def tendrilref03_New_S : Sig := ⟨[⟨true, (.pair .int (.pair .int (.pair .int (.pair .int .int))))⟩], [⟨false, (.sl .int)⟩, ⟨false, .int⟩], true, tendrilref03_New⟩
/-! tendril/tendrilref15.New -/
def tendrilref15_New (x : (Int × Int × Int × Int × Int) × Int) : Option ((List Int × List Int × ((List Int × List Int × List Int × List Int) × (List Int × List Int × List Int × List Int) × List Int × List Int × List Int × List Int) × Int × List Int) × Int) :=
  (tendrilref07_New (((x.fst.1, x.fst.snd.1, x.fst.snd.snd.1, x.fst.snd.snd.snd.1, x.fst.snd.snd.snd.2), x.2))).bind fun r0 =>
  bif r0.2 != (0 : Int) then
    some ((([], [], (([], [], [], []), ([], [], [], []), [], [], [], []), (0 : Int), []), r0.2))
  else
    (tendrilref03_New ((x.fst.1, x.fst.snd.1, x.fst.snd.snd.1, x.fst.snd.snd.snd.1, x.fst.snd.snd.snd.2))).bind fun r1 =>
    bif Decidable.decide ((0 : Int) ≤ Go.RowKit.wrap64 (x.fst.snd.snd.snd.1 + (1 : Int))) then
      bif Decidable.decide (Go.RowKit.wrap64 (x.fst.snd.snd.snd.1 + (1 : Int)) ≤ (1000000 : Int)) then
        some (((r1.1, List.replicate (Go.RowKit.wrap64 (x.fst.snd.snd.snd.1 + (1 : Int))).toNat (0 : Int), ((r0.fst.snd.snd.fst.fst.1, r0.fst.snd.snd.fst.fst.snd.1, r0.fst.snd.snd.fst.fst.snd.snd.1, r0.fst.snd.snd.fst.fst.snd.snd.2), (r0.fst.snd.snd.fst.snd.fst.1, r0.fst.snd.snd.fst.snd.fst.snd.1, r0.fst.snd.snd.fst.snd.fst.snd.snd.1, r0.fst.snd.snd.fst.snd.fst.snd.snd.2), r0.fst.snd.snd.fst.snd.snd.1, r0.fst.snd.snd.fst.snd.snd.snd.1, r0.fst.snd.snd.fst.snd.snd.snd.snd.1, r0.fst.snd.snd.fst.snd.snd.snd.snd.2), r0.fst.snd.snd.snd.1, r0.fst.snd.snd.snd.2), (0 : Int)))
      else
        none
    else
      none
def tendrilref15_New_S : Sig := ⟨[⟨true, (.pair .int (.pair .int (.pair .int (.pair .int .int))))⟩, ⟨false, .int⟩], [⟨true, (.pair (.sl .int) (.pair (.sl .int) (.pair (.pair (.pair (.sl .int) (.pair (.sl .int) (.pair (.sl .int) (.sl .int)))) (.pair (.pair (.sl .int) (.pair (.sl .int) (.pair (.sl .int) (.sl .int)))) (.pair (.sl .int) (.pair (.sl .int) (.pair (.sl .int) (.sl .int)))))) (.pair .int (.sl .int)))))⟩, ⟨false, .int⟩], true, tendrilref15_New⟩
/-! tendril/tendrilref02.Same -/
def tendrilref02_Same_L10 : Nat → (List Int) → (List Int) → (Int) → (Int) → Option (Bool)
  | 0, _, _, _, _ => none
  | k + 1, p0, p1, p2, p3 =>
    bif Decidable.decide (p3 < p2) then
      bif Decidable.decide ((0 : Int) ≤ p3) then
        bif Decidable.decide (p3 < (↑p0.length : Int)) then
          bif Decidable.decide ((0 : Int) ≤ p3) then
            bif Decidable.decide (p3 < (↑p1.length : Int)) then
              bif p0.getD p3.toNat (0 : Int) != p1.getD p3.toNat (0 : Int) then
                some (Bool.false)
              else
                tendrilref02_Same_L10 k (p0) (p1) (p2) (Go.RowKit.wrap64 (p3 + (1 : Int)))
            else
              none
          else
            none
        else
          none
      else
        none
    else
      some (Bool.true)
def tendrilref02_Same_K (K : Nat) (x : List Int × List Int) : Option (Bool) :=
  bif (↑(List.length x.1) : Int) != (↑(List.length x.2) : Int) then
    some (Bool.false)
  else
    tendrilref02_Same_L10 K (x.1) (x.2) ((↑(List.length x.1) : Int)) ((0 : Int))
def tendrilref02_Same (x : (List Int) × (List Int)) : Option (Bool) := tendrilref02_Same_K 2000000 x
def tendrilref02_Same_S : Sig := ⟨[⟨false, (.sl .int)⟩, ⟨false, (.sl .int)⟩], [⟨false, .bool⟩], false, tendrilref02_Same⟩
/-! tendril/tendrilref06.Same -/
def tendrilref06_Same (x : (Int × List Int) × Int × List Int) : Option (Bool) :=
  bif x.fst.1 == x.snd.1 then
    (tendrilref02_Same ((x.fst.2, x.snd.2))).bind fun r0 =>
    some (r0)
  else
    some (Bool.false)
def tendrilref06_Same_S : Sig := ⟨[⟨true, (.pair .int (.sl .int))⟩, ⟨true, (.pair .int (.sl .int))⟩], [⟨false, .bool⟩], false, tendrilref06_Same⟩
/-! tendril/tendrilref05.Same -/
def tendrilref05_Same (x : (List Int × List Int × List Int × List Int) × List Int × List Int × List Int × List Int) : Option (Bool) :=
  (tendrilref02_Same ((x.fst.1, x.snd.1))).bind fun r0 =>
  bif r0 then
    (tendrilref02_Same ((x.fst.snd.1, x.snd.snd.1))).bind fun r1 =>
    bif r1 then
      (tendrilref02_Same ((x.fst.snd.snd.1, x.snd.snd.snd.1))).bind fun r2 =>
      bif r2 then
        (tendrilref02_Same ((x.fst.snd.snd.2, x.snd.snd.snd.2))).bind fun r3 =>
        some (r3)
      else
        some (Bool.false)
    else
      some (Bool.false)
  else
    some (Bool.false)
def tendrilref05_Same_S : Sig := ⟨[⟨true, (.pair (.sl .int) (.pair (.sl .int) (.pair (.sl .int) (.sl .int))))⟩, ⟨true, (.pair (.sl .int) (.pair (.sl .int) (.pair (.sl .int) (.sl .int))))⟩], [⟨false, .bool⟩], false, tendrilref05_Same⟩
/-! tendril/tendrilref07.Same -/
def tendrilref07_Same_L6 : Nat → (Int) → (List Int) → (List Int) → (List Int) → (List Int) → (List Int) → (List Int) → (List Int) → (List Int) → (List Int) → (List Int) → (List Int) → (List Int) → (List Int) → (List Int) → (Int) → (List Int) → (List Int) → (List Int) → (List Int) → (List Int) → (List Int) → (List Int) → (List Int) → (List Int) → (List Int) → (List Int) → (List Int) → (List Int) → (List Int) → (List Int) → (Int) → (List Int) → Option (Bool)
  | 0, _, _, _, _, _, _, _, _, _, _, _, _, _, _, _, _, _, _, _, _, _, _, _, _, _, _, _, _, _, _, _, _, _ => none
  | k + 1, p0, p1, p2, p3, p4, p5, p6, p7, p8, p9, p10, p11, p12, p13, p14, p15, p16, p17, p18, p19, p20, p21, p22, p23, p24, p25, p26, p27, p28, p29, p30, p31, p32 =>
    bif Decidable.decide (p0 < (3 : Int)) then
      bif Decidable.decide (p0 = (↑(nat_lit 2) : Int)) then
        bif Decidable.decide (p0 = (↑(nat_lit 2) : Int)) then
          (tendrilref05_Same (((p11, p12, p13, p14), p27, p28, p29, p30))).bind fun r0 =>
          bif !r0 then
            some (Bool.false)
          else
            tendrilref07_Same_L6 k (Go.RowKit.wrap64 (p0 + (1 : Int))) (p1) (p2) (p3) (p4) (p5) (p6) (p7) (p8) (p9) (p10) (p11) (p12) (p13) (p14) (p15) (p16) (p17) (p18) (p19) (p20) (p21) (p22) (p23) (p24) (p25) (p26) (p27) (p28) (p29) (p30) (p31) (p32)
        else
          bif Decidable.decide (p0 = (↑(nat_lit 1) : Int)) then
            (tendrilref05_Same (((p11, p12, p13, p14), p23, p24, p25, p26))).bind fun r1 =>
            bif !r1 then
              some (Bool.false)
            else
              tendrilref07_Same_L6 k (Go.RowKit.wrap64 (p0 + (1 : Int))) (p1) (p2) (p3) (p4) (p5) (p6) (p7) (p8) (p9) (p10) (p11) (p12) (p13) (p14) (p15) (p16) (p17) (p18) (p19) (p20) (p21) (p22) (p23) (p24) (p25) (p26) (p27) (p28) (p29) (p30) (p31) (p32)
          else
            bif Decidable.decide (p0 = (↑(nat_lit 0) : Int)) then
              (tendrilref05_Same (((p11, p12, p13, p14), p19, p20, p21, p22))).bind fun r2 =>
              bif !r2 then
                some (Bool.false)
              else
                tendrilref07_Same_L6 k (Go.RowKit.wrap64 (p0 + (1 : Int))) (p1) (p2) (p3) (p4) (p5) (p6) (p7) (p8) (p9) (p10) (p11) (p12) (p13) (p14) (p15) (p16) (p17) (p18) (p19) (p20) (p21) (p22) (p23) (p24) (p25) (p26) (p27) (p28) (p29) (p30) (p31) (p32)
            else
              none
      else
        bif Decidable.decide (p0 = (↑(nat_lit 1) : Int)) then
          bif Decidable.decide (p0 = (↑(nat_lit 2) : Int)) then
            (tendrilref05_Same (((p7, p8, p9, p10), p27, p28, p29, p30))).bind fun r3 =>
            bif !r3 then
              some (Bool.false)
            else
              tendrilref07_Same_L6 k (Go.RowKit.wrap64 (p0 + (1 : Int))) (p1) (p2) (p3) (p4) (p5) (p6) (p7) (p8) (p9) (p10) (p11) (p12) (p13) (p14) (p15) (p16) (p17) (p18) (p19) (p20) (p21) (p22) (p23) (p24) (p25) (p26) (p27) (p28) (p29) (p30) (p31) (p32)
          else
            bif Decidable.decide (p0 = (↑(nat_lit 1) : Int)) then
              (tendrilref05_Same (((p7, p8, p9, p10), p23, p24, p25, p26))).bind fun r4 =>
              bif !r4 then
                some (Bool.false)
              else
                tendrilref07_Same_L6 k (Go.RowKit.wrap64 (p0 + (1 : Int))) (p1) (p2) (p3) (p4) (p5) (p6) (p7) (p8) (p9) (p10) (p11) (p12) (p13) (p14) (p15) (p16) (p17) (p18) (p19) (p20) (p21) (p22) (p23) (p24) (p25) (p26) (p27) (p28) (p29) (p30) (p31) (p32)
            else
              bif Decidable.decide (p0 = (↑(nat_lit 0) : Int)) then
                (tendrilref05_Same (((p7, p8, p9, p10), p19, p20, p21, p22))).bind fun r5 =>
                bif !r5 then
                  some (Bool.false)
                else
                  tendrilref07_Same_L6 k (Go.RowKit.wrap64 (p0 + (1 : Int))) (p1) (p2) (p3) (p4) (p5) (p6) (p7) (p8) (p9) (p10) (p11) (p12) (p13) (p14) (p15) (p16) (p17) (p18) (p19) (p20) (p21) (p22) (p23) (p24) (p25) (p26) (p27) (p28) (p29) (p30) (p31) (p32)
              else
                none
        else
          bif Decidable.decide (p0 = (↑(nat_lit 0) : Int)) then
            bif Decidable.decide (p0 = (↑(nat_lit 2) : Int)) then
              (tendrilref05_Same (((p3, p4, p5, p6), p27, p28, p29, p30))).bind fun r6 =>
              bif !r6 then
                some (Bool.false)
              else
                tendrilref07_Same_L6 k (Go.RowKit.wrap64 (p0 + (1 : Int))) (p1) (p2) (p3) (p4) (p5) (p6) (p7) (p8) (p9) (p10) (p11) (p12) (p13) (p14) (p15) (p16) (p17) (p18) (p19) (p20) (p21) (p22) (p23) (p24) (p25) (p26) (p27) (p28) (p29) (p30) (p31) (p32)
            else
              bif Decidable.decide (p0 = (↑(nat_lit 1) : Int)) then
                (tendrilref05_Same (((p3, p4, p5, p6), p23, p24, p25, p26))).bind fun r7 =>
                bif !r7 then
                  some (Bool.false)
                else
                  tendrilref07_Same_L6 k (Go.RowKit.wrap64 (p0 + (1 : Int))) (p1) (p2) (p3) (p4) (p5) (p6) (p7) (p8) (p9) (p10) (p11) (p12) (p13) (p14) (p15) (p16) (p17) (p18) (p19) (p20) (p21) (p22) (p23) (p24) (p25) (p26) (p27) (p28) (p29) (p30) (p31) (p32)
              else
                bif Decidable.decide (p0 = (↑(nat_lit 0) : Int)) then
                  (tendrilref05_Same (((p3, p4, p5, p6), p19, p20, p21, p22))).bind fun r8 =>
                  bif !r8 then
                    some (Bool.false)
                  else
                    tendrilref07_Same_L6 k (Go.RowKit.wrap64 (p0 + (1 : Int))) (p1) (p2) (p3) (p4) (p5) (p6) (p7) (p8) (p9) (p10) (p11) (p12) (p13) (p14) (p15) (p16) (p17) (p18) (p19) (p20) (p21) (p22) (p23) (p24) (p25) (p26) (p27) (p28) (p29) (p30) (p31) (p32)
                else
                  none
          else
            none
    else
      (tendrilref06_Same (((p15, p16), p31, p32))).bind fun r9 =>
      bif r9 then
        (tendrilref02_Same ((p1, p17))).bind fun r10 =>
        bif r10 then
          (tendrilref02_Same ((p2, p18))).bind fun r11 =>
          some (r11)
        else
          some (Bool.false)
      else
        some (Bool.false)
def tendrilref07_Same_K (K : Nat) (x : (List Int × List Int × ((List Int × List Int × List Int × List Int) × (List Int × List Int × List Int × List Int) × List Int × List Int × List Int × List Int) × Int × List Int) × List Int × List Int × ((List Int × List Int × List Int × List Int) × (List Int × List Int × List Int × List Int) × List Int × List Int × List Int × List Int) × Int × List Int) : Option (Bool) :=
  tendrilref07_Same_L6 K ((0 : Int)) (x.fst.1) (x.fst.snd.1) (x.fst.snd.snd.fst.fst.1) (x.fst.snd.snd.fst.fst.snd.1) (x.fst.snd.snd.fst.fst.snd.snd.1) (x.fst.snd.snd.fst.fst.snd.snd.2) (x.fst.snd.snd.fst.snd.fst.1) (x.fst.snd.snd.fst.snd.fst.snd.1) (x.fst.snd.snd.fst.snd.fst.snd.snd.1) (x.fst.snd.snd.fst.snd.fst.snd.snd.2) (x.fst.snd.snd.fst.snd.snd.1) (x.fst.snd.snd.fst.snd.snd.snd.1) (x.fst.snd.snd.fst.snd.snd.snd.snd.1) (x.fst.snd.snd.fst.snd.snd.snd.snd.2) (x.fst.snd.snd.snd.1) (x.fst.snd.snd.snd.2) (x.snd.1) (x.snd.snd.1) (x.snd.snd.snd.fst.fst.1) (x.snd.snd.snd.fst.fst.snd.1) (x.snd.snd.snd.fst.fst.snd.snd.1) (x.snd.snd.snd.fst.fst.snd.snd.2) (x.snd.snd.snd.fst.snd.fst.1) (x.snd.snd.snd.fst.snd.fst.snd.1) (x.snd.snd.snd.fst.snd.fst.snd.snd.1) (x.snd.snd.snd.fst.snd.fst.snd.snd.2) (x.snd.snd.snd.fst.snd.snd.1) (x.snd.snd.snd.fst.snd.snd.snd.1) (x.snd.snd.snd.fst.snd.snd.snd.snd.1) (x.snd.snd.snd.fst.snd.snd.snd.snd.2) (x.snd.snd.snd.snd.1) (x.snd.snd.snd.snd.2)
def tendrilref07_Same (x : ((List Int) × ((List Int) × ((((List Int) × ((List Int) × ((List Int) × (List Int)))) × (((List Int) × ((List Int) × ((List Int) × (List Int)))) × ((List Int) × ((List Int) × ((List Int) × (List Int)))))) × (Int × (List Int))))) × ((List Int) × ((List Int) × ((((List Int) × ((List Int) × ((List Int) × (List Int)))) × (((List Int) × ((List Int) × ((List Int) × (List Int)))) × ((List Int) × ((List Int) × ((List Int) × (List Int)))))) × (Int × (List Int)))))) : Option (Bool) := tendrilref07_Same_K 2000000 x
def tendrilref07_Same_S : Sig := ⟨[⟨true, (.pair (.sl .int) (.pair (.sl .int) (.pair (.pair (.pair (.sl .int) (.pair (.sl .int) (.pair (.sl .int) (.sl .int)))) (.pair (.pair (.sl .int) (.pair (.sl .int) (.pair (.sl .int) (.sl .int)))) (.pair (.sl .int) (.pair (.sl .int) (.pair (.sl .int) (.sl .int)))))) (.pair .int (.sl .int)))))⟩, ⟨true, (.pair (.sl .int) (.pair (.sl .int) (.pair (.pair (.pair (.sl .int) (.pair (.sl .int) (.pair (.sl .int) (.sl .int)))) (.pair (.pair (.sl .int) (.pair (.sl .int) (.pair (.sl .int) (.sl .int)))) (.pair (.sl .int) (.pair (.sl .int) (.pair (.sl .int) (.sl .int)))))) (.pair .int (.sl .int)))))⟩], [⟨false, .bool⟩], false, tendrilref07_Same⟩
/-! tendril/tendrilref08.Check -/
def tendrilref08_Check (x : Int) : Option (Int) :=
  bif Decidable.decide (x < (0 : Int)) then
    some ((1 : Int))
  else
    bif Decidable.decide ((4611686018427387904 : Int) < x) then
      some ((1 : Int))
    else
      some ((0 : Int))
def tendrilref08_Check_S : Sig := ⟨[⟨false, .int⟩], [⟨false, .int⟩], false, tendrilref08_Check⟩
/-! tendril/tendrilref08.Held -/
def tendrilref08_Held (x : Int) : Option (Bool) :=
  (tendrilref08_Check (x)).bind fun r0 =>
  bif r0 == (0 : Int) then
    some (Int.tmod x (2 : Int) == (1 : Int))
  else
    some (Bool.false)
def tendrilref08_Held_S : Sig := ⟨[⟨false, .int⟩], [⟨false, .bool⟩], false, tendrilref08_Held⟩
/-! tendril/tendrilref16.Waits -/
def tendrilref16_Waits (x : (List Int × List Int × ((List Int × List Int × List Int × List Int) × (List Int × List Int × List Int × List Int) × List Int × List Int × List Int × List Int) × Int × List Int) × Int × Int × Int × Int × Int × Int) : Option (Bool) :=
  bif x.snd.1 == (5 : Int) then
    bif Decidable.decide ((0 : Int) ≤ x.snd.snd.1) then
      bif Decidable.decide (x.snd.snd.1 < (↑(List.length x.fst.snd.1) : Int)) then
        bif Decidable.decide ((0 : Int) ≤ x.snd.snd.1) then
          bif Decidable.decide (x.snd.snd.1 < (↑(List.length x.fst.snd.1) : Int)) then
            (tendrilref08_Held (List.getD x.fst.snd.1 (Int.toNat x.snd.snd.1) (0 : Int))).bind fun r0 =>
            some (r0)
          else
            none
        else
          none
      else
        some (Bool.false)
    else
      some (Bool.false)
  else
    bif x.snd.1 == (7 : Int) then
      bif Decidable.decide ((0 : Int) ≤ x.snd.snd.1) then
        bif Decidable.decide (x.snd.snd.1 < (↑(List.length x.fst.snd.1) : Int)) then
          bif Decidable.decide ((0 : Int) ≤ x.snd.snd.1) then
            bif Decidable.decide (x.snd.snd.1 < (↑(List.length x.fst.snd.1) : Int)) then
              (tendrilref08_Held (List.getD x.fst.snd.1 (Int.toNat x.snd.snd.1) (0 : Int))).bind fun r1 =>
              some (r1)
            else
              none
          else
            none
        else
          some (Bool.false)
      else
        some (Bool.false)
    else
      some (Bool.false)
def tendrilref16_Waits_S : Sig := ⟨[⟨true, (.pair (.sl .int) (.pair (.sl .int) (.pair (.pair (.pair (.sl .int) (.pair (.sl .int) (.pair (.sl .int) (.sl .int)))) (.pair (.pair (.sl .int) (.pair (.sl .int) (.pair (.sl .int) (.sl .int)))) (.pair (.sl .int) (.pair (.sl .int) (.pair (.sl .int) (.sl .int)))))) (.pair .int (.sl .int)))))⟩, ⟨true, (.pair .int (.pair .int (.pair .int (.pair .int (.pair .int .int)))))⟩], [⟨false, .bool⟩], false, tendrilref16_Waits⟩
/-! tendril/tendrillaw16.AskBegins -/
def tendrillaw16_AskBegins (x : (Int × Int × Int × Int × Int) × Int × (List Int × List Int × ((List Int × List Int × List Int × List Int) × (List Int × List Int × List Int × List Int) × List Int × List Int × List Int × List Int) × Int × List Int) × Int × Int × Int × Int × Int × Int) : Option (Bool) :=
  (tendrillaw16_live (())).bind fun r0 =>
  bif !r0 then
    some (Bool.false)
  else
    (tendrilref07_Few ((x.snd.snd.fst.1, x.snd.snd.fst.snd.1, ((x.snd.snd.fst.snd.snd.fst.fst.1, x.snd.snd.fst.snd.snd.fst.fst.snd.1, x.snd.snd.fst.snd.snd.fst.fst.snd.snd.1, x.snd.snd.fst.snd.snd.fst.fst.snd.snd.2), (x.snd.snd.fst.snd.snd.fst.snd.fst.1, x.snd.snd.fst.snd.snd.fst.snd.fst.snd.1, x.snd.snd.fst.snd.snd.fst.snd.fst.snd.snd.1, x.snd.snd.fst.snd.snd.fst.snd.fst.snd.snd.2), x.snd.snd.fst.snd.snd.fst.snd.snd.1, x.snd.snd.fst.snd.snd.fst.snd.snd.snd.1, x.snd.snd.fst.snd.snd.fst.snd.snd.snd.snd.1, x.snd.snd.fst.snd.snd.fst.snd.snd.snd.snd.2), x.snd.snd.fst.snd.snd.snd.1, x.snd.snd.fst.snd.snd.snd.2))).bind fun r1 =>
    bif !r1 then
      some (Bool.true)
    else
      (ask_New (((x.fst.1, x.fst.snd.1, x.fst.snd.snd.1, x.fst.snd.snd.snd.1, x.fst.snd.snd.snd.2), x.snd.1))).bind fun r2 =>
      (tendrilref15_New (((x.fst.1, x.fst.snd.1, x.fst.snd.snd.1, x.fst.snd.snd.snd.1, x.fst.snd.snd.snd.2), x.snd.1))).bind fun r3 =>
      (tendrilref07_Same (((r2.fst.1, r2.fst.snd.1, ((r2.fst.snd.snd.fst.fst.1, r2.fst.snd.snd.fst.fst.snd.1, r2.fst.snd.snd.fst.fst.snd.snd.1, r2.fst.snd.snd.fst.fst.snd.snd.2), (r2.fst.snd.snd.fst.snd.fst.1, r2.fst.snd.snd.fst.snd.fst.snd.1, r2.fst.snd.snd.fst.snd.fst.snd.snd.1, r2.fst.snd.snd.fst.snd.fst.snd.snd.2), r2.fst.snd.snd.fst.snd.snd.1, r2.fst.snd.snd.fst.snd.snd.snd.1, r2.fst.snd.snd.fst.snd.snd.snd.snd.1, r2.fst.snd.snd.fst.snd.snd.snd.snd.2), r2.fst.snd.snd.snd.1, r2.fst.snd.snd.snd.2), r3.fst.1, r3.fst.snd.1, ((r3.fst.snd.snd.fst.fst.1, r3.fst.snd.snd.fst.fst.snd.1, r3.fst.snd.snd.fst.fst.snd.snd.1, r3.fst.snd.snd.fst.fst.snd.snd.2), (r3.fst.snd.snd.fst.snd.fst.1, r3.fst.snd.snd.fst.snd.fst.snd.1, r3.fst.snd.snd.fst.snd.fst.snd.snd.1, r3.fst.snd.snd.fst.snd.fst.snd.snd.2), r3.fst.snd.snd.fst.snd.snd.1, r3.fst.snd.snd.fst.snd.snd.snd.1, r3.fst.snd.snd.fst.snd.snd.snd.snd.1, r3.fst.snd.snd.fst.snd.snd.snd.snd.2), r3.fst.snd.snd.snd.1, r3.fst.snd.snd.snd.2))).bind fun r4 =>
      bif r4 then
        bif r2.2 == r3.2 then
          (ask_Waits (((x.snd.snd.fst.1, x.snd.snd.fst.snd.1, ((x.snd.snd.fst.snd.snd.fst.fst.1, x.snd.snd.fst.snd.snd.fst.fst.snd.1, x.snd.snd.fst.snd.snd.fst.fst.snd.snd.1, x.snd.snd.fst.snd.snd.fst.fst.snd.snd.2), (x.snd.snd.fst.snd.snd.fst.snd.fst.1, x.snd.snd.fst.snd.snd.fst.snd.fst.snd.1, x.snd.snd.fst.snd.snd.fst.snd.fst.snd.snd.1, x.snd.snd.fst.snd.snd.fst.snd.fst.snd.snd.2), x.snd.snd.fst.snd.snd.fst.snd.snd.1, x.snd.snd.fst.snd.snd.fst.snd.snd.snd.1, x.snd.snd.fst.snd.snd.fst.snd.snd.snd.snd.1, x.snd.snd.fst.snd.snd.fst.snd.snd.snd.snd.2), x.snd.snd.fst.snd.snd.snd.1, x.snd.snd.fst.snd.snd.snd.2), x.snd.snd.snd.1, x.snd.snd.snd.snd.1, x.snd.snd.snd.snd.snd.1, x.snd.snd.snd.snd.snd.snd.1, x.snd.snd.snd.snd.snd.snd.snd.1, x.snd.snd.snd.snd.snd.snd.snd.2))).bind fun r5 =>
          (tendrilref16_Waits (((x.snd.snd.fst.1, x.snd.snd.fst.snd.1, ((x.snd.snd.fst.snd.snd.fst.fst.1, x.snd.snd.fst.snd.snd.fst.fst.snd.1, x.snd.snd.fst.snd.snd.fst.fst.snd.snd.1, x.snd.snd.fst.snd.snd.fst.fst.snd.snd.2), (x.snd.snd.fst.snd.snd.fst.snd.fst.1, x.snd.snd.fst.snd.snd.fst.snd.fst.snd.1, x.snd.snd.fst.snd.snd.fst.snd.fst.snd.snd.1, x.snd.snd.fst.snd.snd.fst.snd.fst.snd.snd.2), x.snd.snd.fst.snd.snd.fst.snd.snd.1, x.snd.snd.fst.snd.snd.fst.snd.snd.snd.1, x.snd.snd.fst.snd.snd.fst.snd.snd.snd.snd.1, x.snd.snd.fst.snd.snd.fst.snd.snd.snd.snd.2), x.snd.snd.fst.snd.snd.snd.1, x.snd.snd.fst.snd.snd.snd.2), x.snd.snd.snd.1, x.snd.snd.snd.snd.1, x.snd.snd.snd.snd.snd.1, x.snd.snd.snd.snd.snd.snd.1, x.snd.snd.snd.snd.snd.snd.snd.1, x.snd.snd.snd.snd.snd.snd.snd.2))).bind fun r6 =>
          some (r5 == r6)
        else
          some (Bool.false)
      else
        some (Bool.false)
def tendrillaw16_AskBegins_S : Sig := ⟨[⟨true, (.pair .int (.pair .int (.pair .int (.pair .int .int))))⟩, ⟨false, .int⟩, ⟨true, (.pair (.sl .int) (.pair (.sl .int) (.pair (.pair (.pair (.sl .int) (.pair (.sl .int) (.pair (.sl .int) (.sl .int)))) (.pair (.pair (.sl .int) (.pair (.sl .int) (.pair (.sl .int) (.sl .int)))) (.pair (.sl .int) (.pair (.sl .int) (.pair (.sl .int) (.sl .int)))))) (.pair .int (.sl .int)))))⟩, ⟨true, (.pair .int (.pair .int (.pair .int (.pair .int (.pair .int .int)))))⟩], [⟨false, .bool⟩], false, tendrillaw16_AskBegins⟩
/-! tendril/tendrillaw16.AskOne -/
mutual
def tendrillaw16_AskOne_L26 : Nat → (Int) → (Int) → (Int) → (Int) → (List Int) → (List Int) → (List Int) → (List Int) → (List Int) → (List Int) → (List Int) → (List Int) → (List Int) → (List Int) → (List Int) → (List Int) → (List Int) → (List Int) → (Int) → (List Int) → (Int) → (Int) → (Int) → (Int) → (Int) → (Int) → (List Int) → (List Int) → (List Int) → (List Int) → (List Int) → (List Int) → (List Int) → (List Int) → (List Int) → (List Int) → (List Int) → (List Int) → (List Int) → (List Int) → (Int) → (List Int) → Option (Bool)
  | 0, _, _, _, _, _, _, _, _, _, _, _, _, _, _, _, _, _, _, _, _, _, _, _, _, _, _, _, _, _, _, _, _, _, _, _, _, _, _, _, _, _, _ => none
  | k + 1, p0, p1, p2, p3, p4, p5, p6, p7, p8, p9, p10, p11, p12, p13, p14, p15, p16, p17, p18, p19, p20, p21, p22, p23, p24, p25, p26, p27, p28, p29, p30, p31, p32, p33, p34, p35, p36, p37, p38, p39, p40, p41 =>
    bif Decidable.decide (p3 < p2) then
      bif Decidable.decide ((0 : Int) ≤ p3) then
        bif Decidable.decide (p3 < (↑p26.length : Int)) then
          bif Decidable.decide ((0 : Int) ≤ p3) then
            bif Decidable.decide (p3 < (↑p4.length : Int)) then
              bif p26.getD p3.toNat (0 : Int) != p4.getD p3.toNat (0 : Int) then
                tendrillaw16_AskOne_L26 k (Go.RowKit.wrap64 (p0 + (1 : Int))) (p1) (p2) (Go.RowKit.wrap64 (p3 + (1 : Int))) (p4) (p5) (p6) (p7) (p8) (p9) (p10) (p11) (p12) (p13) (p14) (p15) (p16) (p17) (p18) (p19) (p20) (p21) (p22) (p23) (p24) (p25) (p26) (p27) (p28) (p29) (p30) (p31) (p32) (p33) (p34) (p35) (p36) (p37) (p38) (p39) (p40) (p41)
              else
                tendrillaw16_AskOne_L26 k (p0) (p1) (p2) (Go.RowKit.wrap64 (p3 + (1 : Int))) (p4) (p5) (p6) (p7) (p8) (p9) (p10) (p11) (p12) (p13) (p14) (p15) (p16) (p17) (p18) (p19) (p20) (p21) (p22) (p23) (p24) (p25) (p26) (p27) (p28) (p29) (p30) (p31) (p32) (p33) (p34) (p35) (p36) (p37) (p38) (p39) (p40) (p41)
            else
              none
          else
            none
        else
          none
      else
        none
    else
      tendrillaw16_AskOne_L38 k (p0) (p1) ((↑p5.length : Int)) ((0 : Int)) (p4) (p5) (p6) (p7) (p8) (p9) (p10) (p11) (p12) (p13) (p14) (p15) (p16) (p17) (p18) (p19) (p20) (p21) (p22) (p23) (p24) (p25) (p26) (p27) (p28) (p29) (p30) (p31) (p32) (p33) (p34) (p35) (p36) (p37) (p38) (p39) (p40) (p41)
def tendrillaw16_AskOne_L38 : Nat → (Int) → (Int) → (Int) → (Int) → (List Int) → (List Int) → (List Int) → (List Int) → (List Int) → (List Int) → (List Int) → (List Int) → (List Int) → (List Int) → (List Int) → (List Int) → (List Int) → (List Int) → (Int) → (List Int) → (Int) → (Int) → (Int) → (Int) → (Int) → (Int) → (List Int) → (List Int) → (List Int) → (List Int) → (List Int) → (List Int) → (List Int) → (List Int) → (List Int) → (List Int) → (List Int) → (List Int) → (List Int) → (List Int) → (Int) → (List Int) → Option (Bool)
  | 0, _, _, _, _, _, _, _, _, _, _, _, _, _, _, _, _, _, _, _, _, _, _, _, _, _, _, _, _, _, _, _, _, _, _, _, _, _, _, _, _, _, _ => none
  | k + 1, p0, p1, p2, p3, p4, p5, p6, p7, p8, p9, p10, p11, p12, p13, p14, p15, p16, p17, p18, p19, p20, p21, p22, p23, p24, p25, p26, p27, p28, p29, p30, p31, p32, p33, p34, p35, p36, p37, p38, p39, p40, p41 =>
    bif Decidable.decide (p3 < p2) then
      bif Decidable.decide ((0 : Int) ≤ p3) then
        bif Decidable.decide (p3 < (↑p27.length : Int)) then
          bif Decidable.decide ((0 : Int) ≤ p3) then
            bif Decidable.decide (p3 < (↑p5.length : Int)) then
              bif p27.getD p3.toNat (0 : Int) != p5.getD p3.toNat (0 : Int) then
                tendrillaw16_AskOne_L38 k (p0) (Go.RowKit.wrap64 (p1 + (1 : Int))) (p2) (Go.RowKit.wrap64 (p3 + (1 : Int))) (p4) (p5) (p6) (p7) (p8) (p9) (p10) (p11) (p12) (p13) (p14) (p15) (p16) (p17) (p18) (p19) (p20) (p21) (p22) (p23) (p24) (p25) (p26) (p27) (p28) (p29) (p30) (p31) (p32) (p33) (p34) (p35) (p36) (p37) (p38) (p39) (p40) (p41)
              else
                tendrillaw16_AskOne_L38 k (p0) (p1) (p2) (Go.RowKit.wrap64 (p3 + (1 : Int))) (p4) (p5) (p6) (p7) (p8) (p9) (p10) (p11) (p12) (p13) (p14) (p15) (p16) (p17) (p18) (p19) (p20) (p21) (p22) (p23) (p24) (p25) (p26) (p27) (p28) (p29) (p30) (p31) (p32) (p33) (p34) (p35) (p36) (p37) (p38) (p39) (p40) (p41)
            else
              none
          else
            none
        else
          none
      else
        none
    else
      (tendrilref06_Same (((p40, p41), p18, p19))).bind fun r4 =>
      tendrillaw16_AskOne_L52 k (p0) (p1) (r4) ((0 : Int)) (p4) (p5) (p6) (p7) (p8) (p9) (p10) (p11) (p12) (p13) (p14) (p15) (p16) (p17) (p18) (p19) (p20) (p21) (p22) (p23) (p24) (p25) (p26) (p27) (p28) (p29) (p30) (p31) (p32) (p33) (p34) (p35) (p36) (p37) (p38) (p39) (p40) (p41)
def tendrillaw16_AskOne_L52 : Nat → (Int) → (Int) → (Bool) → (Int) → (List Int) → (List Int) → (List Int) → (List Int) → (List Int) → (List Int) → (List Int) → (List Int) → (List Int) → (List Int) → (List Int) → (List Int) → (List Int) → (List Int) → (Int) → (List Int) → (Int) → (Int) → (Int) → (Int) → (Int) → (Int) → (List Int) → (List Int) → (List Int) → (List Int) → (List Int) → (List Int) → (List Int) → (List Int) → (List Int) → (List Int) → (List Int) → (List Int) → (List Int) → (List Int) → (Int) → (List Int) → Option (Bool)
  | 0, _, _, _, _, _, _, _, _, _, _, _, _, _, _, _, _, _, _, _, _, _, _, _, _, _, _, _, _, _, _, _, _, _, _, _, _, _, _, _, _, _, _ => none
  | k + 1, p0, p1, p2, p3, p4, p5, p6, p7, p8, p9, p10, p11, p12, p13, p14, p15, p16, p17, p18, p19, p20, p21, p22, p23, p24, p25, p26, p27, p28, p29, p30, p31, p32, p33, p34, p35, p36, p37, p38, p39, p40, p41 =>
    bif Decidable.decide (p3 < (3 : Int)) then
      bif p2 then
        bif Decidable.decide (p3 = (↑(nat_lit 2) : Int)) then
          bif Decidable.decide (p3 = (↑(nat_lit 2) : Int)) then
            (tendrilref05_Same (((p36, p37, p38, p39), p14, p15, p16, p17))).bind fun r5 =>
            tendrillaw16_AskOne_L52 k (p0) (p1) (r5) (Go.RowKit.wrap64 (p3 + (1 : Int))) (p4) (p5) (p6) (p7) (p8) (p9) (p10) (p11) (p12) (p13) (p14) (p15) (p16) (p17) (p18) (p19) (p20) (p21) (p22) (p23) (p24) (p25) (p26) (p27) (p28) (p29) (p30) (p31) (p32) (p33) (p34) (p35) (p36) (p37) (p38) (p39) (p40) (p41)
          else
            bif Decidable.decide (p3 = (↑(nat_lit 1) : Int)) then
              (tendrilref05_Same (((p36, p37, p38, p39), p10, p11, p12, p13))).bind fun r6 =>
              tendrillaw16_AskOne_L52 k (p0) (p1) (r6) (Go.RowKit.wrap64 (p3 + (1 : Int))) (p4) (p5) (p6) (p7) (p8) (p9) (p10) (p11) (p12) (p13) (p14) (p15) (p16) (p17) (p18) (p19) (p20) (p21) (p22) (p23) (p24) (p25) (p26) (p27) (p28) (p29) (p30) (p31) (p32) (p33) (p34) (p35) (p36) (p37) (p38) (p39) (p40) (p41)
            else
              bif Decidable.decide (p3 = (↑(nat_lit 0) : Int)) then
                (tendrilref05_Same (((p36, p37, p38, p39), p6, p7, p8, p9))).bind fun r7 =>
                tendrillaw16_AskOne_L52 k (p0) (p1) (r7) (Go.RowKit.wrap64 (p3 + (1 : Int))) (p4) (p5) (p6) (p7) (p8) (p9) (p10) (p11) (p12) (p13) (p14) (p15) (p16) (p17) (p18) (p19) (p20) (p21) (p22) (p23) (p24) (p25) (p26) (p27) (p28) (p29) (p30) (p31) (p32) (p33) (p34) (p35) (p36) (p37) (p38) (p39) (p40) (p41)
              else
                none
        else
          bif Decidable.decide (p3 = (↑(nat_lit 1) : Int)) then
            bif Decidable.decide (p3 = (↑(nat_lit 2) : Int)) then
              (tendrilref05_Same (((p32, p33, p34, p35), p14, p15, p16, p17))).bind fun r8 =>
              tendrillaw16_AskOne_L52 k (p0) (p1) (r8) (Go.RowKit.wrap64 (p3 + (1 : Int))) (p4) (p5) (p6) (p7) (p8) (p9) (p10) (p11) (p12) (p13) (p14) (p15) (p16) (p17) (p18) (p19) (p20) (p21) (p22) (p23) (p24) (p25) (p26) (p27) (p28) (p29) (p30) (p31) (p32) (p33) (p34) (p35) (p36) (p37) (p38) (p39) (p40) (p41)
            else
              bif Decidable.decide (p3 = (↑(nat_lit 1) : Int)) then
                (tendrilref05_Same (((p32, p33, p34, p35), p10, p11, p12, p13))).bind fun r9 =>
                tendrillaw16_AskOne_L52 k (p0) (p1) (r9) (Go.RowKit.wrap64 (p3 + (1 : Int))) (p4) (p5) (p6) (p7) (p8) (p9) (p10) (p11) (p12) (p13) (p14) (p15) (p16) (p17) (p18) (p19) (p20) (p21) (p22) (p23) (p24) (p25) (p26) (p27) (p28) (p29) (p30) (p31) (p32) (p33) (p34) (p35) (p36) (p37) (p38) (p39) (p40) (p41)
              else
                bif Decidable.decide (p3 = (↑(nat_lit 0) : Int)) then
                  (tendrilref05_Same (((p32, p33, p34, p35), p6, p7, p8, p9))).bind fun r10 =>
                  tendrillaw16_AskOne_L52 k (p0) (p1) (r10) (Go.RowKit.wrap64 (p3 + (1 : Int))) (p4) (p5) (p6) (p7) (p8) (p9) (p10) (p11) (p12) (p13) (p14) (p15) (p16) (p17) (p18) (p19) (p20) (p21) (p22) (p23) (p24) (p25) (p26) (p27) (p28) (p29) (p30) (p31) (p32) (p33) (p34) (p35) (p36) (p37) (p38) (p39) (p40) (p41)
                else
                  none
          else
            bif Decidable.decide (p3 = (↑(nat_lit 0) : Int)) then
              bif Decidable.decide (p3 = (↑(nat_lit 2) : Int)) then
                (tendrilref05_Same (((p28, p29, p30, p31), p14, p15, p16, p17))).bind fun r11 =>
                tendrillaw16_AskOne_L52 k (p0) (p1) (r11) (Go.RowKit.wrap64 (p3 + (1 : Int))) (p4) (p5) (p6) (p7) (p8) (p9) (p10) (p11) (p12) (p13) (p14) (p15) (p16) (p17) (p18) (p19) (p20) (p21) (p22) (p23) (p24) (p25) (p26) (p27) (p28) (p29) (p30) (p31) (p32) (p33) (p34) (p35) (p36) (p37) (p38) (p39) (p40) (p41)
              else
                bif Decidable.decide (p3 = (↑(nat_lit 1) : Int)) then
                  (tendrilref05_Same (((p28, p29, p30, p31), p10, p11, p12, p13))).bind fun r12 =>
                  tendrillaw16_AskOne_L52 k (p0) (p1) (r12) (Go.RowKit.wrap64 (p3 + (1 : Int))) (p4) (p5) (p6) (p7) (p8) (p9) (p10) (p11) (p12) (p13) (p14) (p15) (p16) (p17) (p18) (p19) (p20) (p21) (p22) (p23) (p24) (p25) (p26) (p27) (p28) (p29) (p30) (p31) (p32) (p33) (p34) (p35) (p36) (p37) (p38) (p39) (p40) (p41)
                else
                  bif Decidable.decide (p3 = (↑(nat_lit 0) : Int)) then
                    (tendrilref05_Same (((p28, p29, p30, p31), p6, p7, p8, p9))).bind fun r13 =>
                    tendrillaw16_AskOne_L52 k (p0) (p1) (r13) (Go.RowKit.wrap64 (p3 + (1 : Int))) (p4) (p5) (p6) (p7) (p8) (p9) (p10) (p11) (p12) (p13) (p14) (p15) (p16) (p17) (p18) (p19) (p20) (p21) (p22) (p23) (p24) (p25) (p26) (p27) (p28) (p29) (p30) (p31) (p32) (p33) (p34) (p35) (p36) (p37) (p38) (p39) (p40) (p41)
                  else
                    none
            else
              none
      else
        tendrillaw16_AskOne_L52 k (p0) (p1) (Bool.false) (Go.RowKit.wrap64 (p3 + (1 : Int))) (p4) (p5) (p6) (p7) (p8) (p9) (p10) (p11) (p12) (p13) (p14) (p15) (p16) (p17) (p18) (p19) (p20) (p21) (p22) (p23) (p24) (p25) (p26) (p27) (p28) (p29) (p30) (p31) (p32) (p33) (p34) (p35) (p36) (p37) (p38) (p39) (p40) (p41)
    else
      bif p20 == (3 : Int) then
        bif p0 == (0 : Int) then
          bif p1 == (0 : Int) then
            some (p2)
          else
            some (Bool.false)
        else
          some (Bool.false)
      else
        bif p20 == (7 : Int) then
          bif p0 == (0 : Int) then
            bif p1 == (0 : Int) then
              some (p2)
            else
              some (Bool.false)
          else
            some (Bool.false)
        else
          bif p20 == (4 : Int) then
            bif Decidable.decide (p0 ≤ (1 : Int)) then
              bif p1 == (0 : Int) then
                some (p2)
              else
                some (Bool.false)
            else
              some (Bool.false)
          else
            bif p20 == (5 : Int) then
              bif p0 == (0 : Int) then
                bif p1 == (1 : Int) then
                  some (p2)
                else
                  some (Bool.false)
              else
                some (Bool.false)
            else
              bif p20 == (6 : Int) then
                bif p0 == (0 : Int) then
                  bif p1 == (1 : Int) then
                    some (p2)
                  else
                    some (Bool.false)
                else
                  some (Bool.false)
              else
                bif p0 == (0 : Int) then
                  some (p1 == (0 : Int))
                else
                  some (Bool.false)
end
def tendrillaw16_AskOne_K (K : Nat) (x : (Int × Int × Int × Int × Int) × (List Int × List Int × ((List Int × List Int × List Int × List Int) × (List Int × List Int × List Int × List Int) × List Int × List Int × List Int × List Int) × Int × List Int) × Int × Int × Int × Int × Int × Int × Int) : Option (Bool) :=
  (tendrillaw16_live (())).bind fun r0 =>
  bif !r0 then
    some (Bool.false)
  else
    (tendrilref07_Few ((x.snd.fst.1, x.snd.fst.snd.1, ((x.snd.fst.snd.snd.fst.fst.1, x.snd.fst.snd.snd.fst.fst.snd.1, x.snd.fst.snd.snd.fst.fst.snd.snd.1, x.snd.fst.snd.snd.fst.fst.snd.snd.2), (x.snd.fst.snd.snd.fst.snd.fst.1, x.snd.fst.snd.snd.fst.snd.fst.snd.1, x.snd.fst.snd.snd.fst.snd.fst.snd.snd.1, x.snd.fst.snd.snd.fst.snd.fst.snd.snd.2), x.snd.fst.snd.snd.fst.snd.snd.1, x.snd.fst.snd.snd.fst.snd.snd.snd.1, x.snd.fst.snd.snd.fst.snd.snd.snd.snd.1, x.snd.fst.snd.snd.fst.snd.snd.snd.snd.2), x.snd.fst.snd.snd.snd.1, x.snd.fst.snd.snd.snd.2))).bind fun r1 =>
    bif !r1 then
      some (Bool.true)
    else
      (ask_Do (((x.fst.1, x.fst.snd.1, x.fst.snd.snd.1, x.fst.snd.snd.snd.1, x.fst.snd.snd.snd.2), (x.snd.fst.1, x.snd.fst.snd.1, ((x.snd.fst.snd.snd.fst.fst.1, x.snd.fst.snd.snd.fst.fst.snd.1, x.snd.fst.snd.snd.fst.fst.snd.snd.1, x.snd.fst.snd.snd.fst.fst.snd.snd.2), (x.snd.fst.snd.snd.fst.snd.fst.1, x.snd.fst.snd.snd.fst.snd.fst.snd.1, x.snd.fst.snd.snd.fst.snd.fst.snd.snd.1, x.snd.fst.snd.snd.fst.snd.fst.snd.snd.2), x.snd.fst.snd.snd.fst.snd.snd.1, x.snd.fst.snd.snd.fst.snd.snd.snd.1, x.snd.fst.snd.snd.fst.snd.snd.snd.snd.1, x.snd.fst.snd.snd.fst.snd.snd.snd.snd.2), x.snd.fst.snd.snd.snd.1, x.snd.fst.snd.snd.snd.2), x.snd.snd.1, x.snd.snd.snd.1, x.snd.snd.snd.snd.1, x.snd.snd.snd.snd.snd.1, x.snd.snd.snd.snd.snd.snd.1, x.snd.snd.snd.snd.snd.snd.snd.1, x.snd.snd.snd.snd.snd.snd.snd.2))).bind fun r2 =>
      bif r2.snd.snd.2 != (0 : Int) then
        (tendrilref07_Same (((r2.fst.1, r2.fst.snd.1, ((r2.fst.snd.snd.fst.fst.1, r2.fst.snd.snd.fst.fst.snd.1, r2.fst.snd.snd.fst.fst.snd.snd.1, r2.fst.snd.snd.fst.fst.snd.snd.2), (r2.fst.snd.snd.fst.snd.fst.1, r2.fst.snd.snd.fst.snd.fst.snd.1, r2.fst.snd.snd.fst.snd.fst.snd.snd.1, r2.fst.snd.snd.fst.snd.fst.snd.snd.2), r2.fst.snd.snd.fst.snd.snd.1, r2.fst.snd.snd.fst.snd.snd.snd.1, r2.fst.snd.snd.fst.snd.snd.snd.snd.1, r2.fst.snd.snd.fst.snd.snd.snd.snd.2), r2.fst.snd.snd.snd.1, r2.fst.snd.snd.snd.2), [], [], (([], [], [], []), ([], [], [], []), [], [], [], []), (0 : Int), []))).bind fun r3 =>
        some (r3)
      else
        bif (↑(List.length r2.fst.1) : Int) != (↑(List.length x.snd.fst.1) : Int) then
          some (Bool.false)
        else
          bif (↑(List.length r2.fst.snd.1) : Int) != (↑(List.length x.snd.fst.snd.1) : Int) then
            some (Bool.false)
          else
            tendrillaw16_AskOne_L26 K ((0 : Int)) ((0 : Int)) ((↑(List.length x.snd.fst.1) : Int)) ((0 : Int)) (x.snd.fst.1) (x.snd.fst.snd.1) (x.snd.fst.snd.snd.fst.fst.1) (x.snd.fst.snd.snd.fst.fst.snd.1) (x.snd.fst.snd.snd.fst.fst.snd.snd.1) (x.snd.fst.snd.snd.fst.fst.snd.snd.2) (x.snd.fst.snd.snd.fst.snd.fst.1) (x.snd.fst.snd.snd.fst.snd.fst.snd.1) (x.snd.fst.snd.snd.fst.snd.fst.snd.snd.1) (x.snd.fst.snd.snd.fst.snd.fst.snd.snd.2) (x.snd.fst.snd.snd.fst.snd.snd.1) (x.snd.fst.snd.snd.fst.snd.snd.snd.1) (x.snd.fst.snd.snd.fst.snd.snd.snd.snd.1) (x.snd.fst.snd.snd.fst.snd.snd.snd.snd.2) (x.snd.fst.snd.snd.snd.1) (x.snd.fst.snd.snd.snd.2) (x.snd.snd.snd.1) (x.snd.snd.snd.snd.1) (x.snd.snd.snd.snd.snd.1) (x.snd.snd.snd.snd.snd.snd.1) (x.snd.snd.snd.snd.snd.snd.snd.1) (x.snd.snd.snd.snd.snd.snd.snd.2) (r2.fst.1) (r2.fst.snd.1) (r2.fst.snd.snd.fst.fst.1) (r2.fst.snd.snd.fst.fst.snd.1) (r2.fst.snd.snd.fst.fst.snd.snd.1) (r2.fst.snd.snd.fst.fst.snd.snd.2) (r2.fst.snd.snd.fst.snd.fst.1) (r2.fst.snd.snd.fst.snd.fst.snd.1) (r2.fst.snd.snd.fst.snd.fst.snd.snd.1) (r2.fst.snd.snd.fst.snd.fst.snd.snd.2) (r2.fst.snd.snd.fst.snd.snd.1) (r2.fst.snd.snd.fst.snd.snd.snd.1) (r2.fst.snd.snd.fst.snd.snd.snd.snd.1) (r2.fst.snd.snd.fst.snd.snd.snd.snd.2) (r2.fst.snd.snd.snd.1) (r2.fst.snd.snd.snd.2)
def tendrillaw16_AskOne (x : (Int × (Int × (Int × (Int × Int)))) × ((List Int) × ((List Int) × ((((List Int) × ((List Int) × ((List Int) × (List Int)))) × (((List Int) × ((List Int) × ((List Int) × (List Int)))) × ((List Int) × ((List Int) × ((List Int) × (List Int)))))) × (Int × (List Int))))) × Int × (Int × (Int × (Int × (Int × (Int × Int)))))) : Option (Bool) := tendrillaw16_AskOne_K 2000000 x
def tendrillaw16_AskOne_S : Sig := ⟨[⟨true, (.pair .int (.pair .int (.pair .int (.pair .int .int))))⟩, ⟨true, (.pair (.sl .int) (.pair (.sl .int) (.pair (.pair (.pair (.sl .int) (.pair (.sl .int) (.pair (.sl .int) (.sl .int)))) (.pair (.pair (.sl .int) (.pair (.sl .int) (.pair (.sl .int) (.sl .int)))) (.pair (.sl .int) (.pair (.sl .int) (.pair (.sl .int) (.sl .int)))))) (.pair .int (.sl .int)))))⟩, ⟨false, .int⟩, ⟨true, (.pair .int (.pair .int (.pair .int (.pair .int (.pair .int .int)))))⟩], [⟨false, .bool⟩], false, tendrillaw16_AskOne⟩
/-! tendril/tendrillaw16.AskBack -/
def tendrillaw16_AskBack (x : (Int × Int × Int × Int × Int) × (List Int × List Int × ((List Int × List Int × List Int × List Int) × (List Int × List Int × List Int × List Int) × List Int × List Int × List Int × List Int) × Int × List Int) × Int × Int × Int × Int × Int × Int × Int) : Option (Bool) :=
  (tendrillaw16_live (())).bind fun r0 =>
  bif !r0 then
    some (Bool.false)
  else
    (tendrilref07_Few ((x.snd.fst.1, x.snd.fst.snd.1, ((x.snd.fst.snd.snd.fst.fst.1, x.snd.fst.snd.snd.fst.fst.snd.1, x.snd.fst.snd.snd.fst.fst.snd.snd.1, x.snd.fst.snd.snd.fst.fst.snd.snd.2), (x.snd.fst.snd.snd.fst.snd.fst.1, x.snd.fst.snd.snd.fst.snd.fst.snd.1, x.snd.fst.snd.snd.fst.snd.fst.snd.snd.1, x.snd.fst.snd.snd.fst.snd.fst.snd.snd.2), x.snd.fst.snd.snd.fst.snd.snd.1, x.snd.fst.snd.snd.fst.snd.snd.snd.1, x.snd.fst.snd.snd.fst.snd.snd.snd.snd.1, x.snd.fst.snd.snd.fst.snd.snd.snd.snd.2), x.snd.fst.snd.snd.snd.1, x.snd.fst.snd.snd.snd.2))).bind fun r1 =>
    bif !r1 then
      some (Bool.true)
    else
      (ask_Do (((x.fst.1, x.fst.snd.1, x.fst.snd.snd.1, x.fst.snd.snd.snd.1, x.fst.snd.snd.snd.2), (x.snd.fst.1, x.snd.fst.snd.1, ((x.snd.fst.snd.snd.fst.fst.1, x.snd.fst.snd.snd.fst.fst.snd.1, x.snd.fst.snd.snd.fst.fst.snd.snd.1, x.snd.fst.snd.snd.fst.fst.snd.snd.2), (x.snd.fst.snd.snd.fst.snd.fst.1, x.snd.fst.snd.snd.fst.snd.fst.snd.1, x.snd.fst.snd.snd.fst.snd.fst.snd.snd.1, x.snd.fst.snd.snd.fst.snd.fst.snd.snd.2), x.snd.fst.snd.snd.fst.snd.snd.1, x.snd.fst.snd.snd.fst.snd.snd.snd.1, x.snd.fst.snd.snd.fst.snd.snd.snd.snd.1, x.snd.fst.snd.snd.fst.snd.snd.snd.snd.2), x.snd.fst.snd.snd.snd.1, x.snd.fst.snd.snd.snd.2), x.snd.snd.1, (4 : Int), x.snd.snd.snd.snd.1, x.snd.snd.snd.snd.snd.1, x.snd.snd.snd.snd.snd.snd.1, x.snd.snd.snd.snd.snd.snd.snd.1, x.snd.snd.snd.snd.snd.snd.snd.2))).bind fun r2 =>
      bif r2.snd.snd.2 != (0 : Int) then
        (ask_Do (((x.fst.1, x.fst.snd.1, x.fst.snd.snd.1, x.fst.snd.snd.snd.1, x.fst.snd.snd.snd.2), (x.snd.fst.1, x.snd.fst.snd.1, ((x.snd.fst.snd.snd.fst.fst.1, x.snd.fst.snd.snd.fst.fst.snd.1, x.snd.fst.snd.snd.fst.fst.snd.snd.1, x.snd.fst.snd.snd.fst.fst.snd.snd.2), (x.snd.fst.snd.snd.fst.snd.fst.1, x.snd.fst.snd.snd.fst.snd.fst.snd.1, x.snd.fst.snd.snd.fst.snd.fst.snd.snd.1, x.snd.fst.snd.snd.fst.snd.fst.snd.snd.2), x.snd.fst.snd.snd.fst.snd.snd.1, x.snd.fst.snd.snd.fst.snd.snd.snd.1, x.snd.fst.snd.snd.fst.snd.snd.snd.snd.1, x.snd.fst.snd.snd.fst.snd.snd.snd.snd.2), x.snd.fst.snd.snd.snd.1, x.snd.fst.snd.snd.snd.2), x.snd.snd.1, (3 : Int), x.snd.snd.snd.snd.1, x.snd.snd.snd.snd.snd.1, x.snd.snd.snd.snd.snd.snd.1, x.snd.snd.snd.snd.snd.snd.snd.1, x.snd.snd.snd.snd.snd.snd.snd.2))).bind fun r3 =>
        bif r3.snd.snd.2 == r2.snd.snd.2 then
          some ((↑(List.length r2.snd.snd.1) : Int) == (0 : Int))
        else
          some (Bool.false)
      else
        (ask_Do (((x.fst.1, x.fst.snd.1, x.fst.snd.snd.1, x.fst.snd.snd.snd.1, x.fst.snd.snd.snd.2), (r2.fst.1, r2.fst.snd.1, ((r2.fst.snd.snd.fst.fst.1, r2.fst.snd.snd.fst.fst.snd.1, r2.fst.snd.snd.fst.fst.snd.snd.1, r2.fst.snd.snd.fst.fst.snd.snd.2), (r2.fst.snd.snd.fst.snd.fst.1, r2.fst.snd.snd.fst.snd.fst.snd.1, r2.fst.snd.snd.fst.snd.fst.snd.snd.1, r2.fst.snd.snd.fst.snd.fst.snd.snd.2), r2.fst.snd.snd.fst.snd.snd.1, r2.fst.snd.snd.fst.snd.snd.snd.1, r2.fst.snd.snd.fst.snd.snd.snd.snd.1, r2.fst.snd.snd.fst.snd.snd.snd.snd.2), r2.fst.snd.snd.snd.1, r2.fst.snd.snd.snd.2), x.snd.snd.1, (3 : Int), x.snd.snd.snd.snd.1, x.snd.snd.snd.snd.snd.1, x.snd.snd.snd.snd.snd.snd.1, x.snd.snd.snd.snd.snd.snd.snd.1, x.snd.snd.snd.snd.snd.snd.snd.2))).bind fun r4 =>
        bif r4.snd.snd.2 != (0 : Int) then
          some (Bool.false)
        else
          bif r4.snd.1 != x.snd.snd.snd.snd.snd.snd.snd.2 then
            some (Bool.false)
          else
            (tendrilref07_Same (((r2.fst.1, r2.fst.snd.1, ((r2.fst.snd.snd.fst.fst.1, r2.fst.snd.snd.fst.fst.snd.1, r2.fst.snd.snd.fst.fst.snd.snd.1, r2.fst.snd.snd.fst.fst.snd.snd.2), (r2.fst.snd.snd.fst.snd.fst.1, r2.fst.snd.snd.fst.snd.fst.snd.1, r2.fst.snd.snd.fst.snd.fst.snd.snd.1, r2.fst.snd.snd.fst.snd.fst.snd.snd.2), r2.fst.snd.snd.fst.snd.snd.1, r2.fst.snd.snd.fst.snd.snd.snd.1, r2.fst.snd.snd.fst.snd.snd.snd.snd.1, r2.fst.snd.snd.fst.snd.snd.snd.snd.2), r2.fst.snd.snd.snd.1, r2.fst.snd.snd.snd.2), r4.fst.1, r4.fst.snd.1, ((r4.fst.snd.snd.fst.fst.1, r4.fst.snd.snd.fst.fst.snd.1, r4.fst.snd.snd.fst.fst.snd.snd.1, r4.fst.snd.snd.fst.fst.snd.snd.2), (r4.fst.snd.snd.fst.snd.fst.1, r4.fst.snd.snd.fst.snd.fst.snd.1, r4.fst.snd.snd.fst.snd.fst.snd.snd.1, r4.fst.snd.snd.fst.snd.fst.snd.snd.2), r4.fst.snd.snd.fst.snd.snd.1, r4.fst.snd.snd.fst.snd.snd.snd.1, r4.fst.snd.snd.fst.snd.snd.snd.snd.1, r4.fst.snd.snd.fst.snd.snd.snd.snd.2), r4.fst.snd.snd.snd.1, r4.fst.snd.snd.snd.2))).bind fun r5 =>
            bif !r5 then
              some (Bool.false)
            else
              bif (↑(List.length r2.snd.snd.1) : Int) != (↑(List.length r4.snd.snd.1) : Int) then
                some (Bool.false)
              else
                bif ((↑(List.length r2.snd.snd.1) : Int) == (1 : Int)) == (x.snd.snd.snd.snd.snd.1 != (0 : Int)) then
                  bif (↑(List.length r2.snd.snd.1) : Int) == (0 : Int) then
                    some (Bool.true)
                  else
                    bif Decidable.decide ((0 : Int) < (↑(List.length r2.snd.snd.1) : Int)) then
                      bif (List.getD r2.snd.snd.fst (Int.toNat (0 : Int)) ((0 : Int), ((0 : Int), ((0 : Int), ((0 : Int), ((0 : Int), ((0 : Int), ((0 : Int), Bool.false)))))))).snd.snd.snd.snd.snd.snd.2 then
                        bif Decidable.decide ((0 : Int) < (↑(List.length r4.snd.snd.1) : Int)) then
                          bif !(List.getD r4.snd.snd.fst (Int.toNat (0 : Int)) ((0 : Int), ((0 : Int), ((0 : Int), ((0 : Int), ((0 : Int), ((0 : Int), ((0 : Int), Bool.false)))))))).snd.snd.snd.snd.snd.snd.2 then
                            bif Decidable.decide ((0 : Int) < (↑(List.length r2.snd.snd.1) : Int)) then
                              bif Decidable.decide ((0 : Int) < (↑(List.length r4.snd.snd.1) : Int)) then
                                some ((List.getD r2.snd.snd.fst (Int.toNat (0 : Int)) ((0 : Int), ((0 : Int), ((0 : Int), ((0 : Int), ((0 : Int), ((0 : Int), ((0 : Int), Bool.false)))))))).snd.snd.1 == (List.getD r4.snd.snd.fst (Int.toNat (0 : Int)) ((0 : Int), ((0 : Int), ((0 : Int), ((0 : Int), ((0 : Int), ((0 : Int), ((0 : Int), Bool.false)))))))).snd.snd.1)
                              else
                                none
                            else
                              none
                          else
                            some (Bool.false)
                        else
                          none
                      else
                        some (Bool.false)
                    else
                      none
                else
                  some (Bool.false)
def tendrillaw16_AskBack_S : Sig := ⟨[⟨true, (.pair .int (.pair .int (.pair .int (.pair .int .int))))⟩, ⟨true, (.pair (.sl .int) (.pair (.sl .int) (.pair (.pair (.pair (.sl .int) (.pair (.sl .int) (.pair (.sl .int) (.sl .int)))) (.pair (.pair (.sl .int) (.pair (.sl .int) (.pair (.sl .int) (.sl .int)))) (.pair (.sl .int) (.pair (.sl .int) (.pair (.sl .int) (.sl .int)))))) (.pair .int (.sl .int)))))⟩, ⟨false, .int⟩, ⟨true, (.pair .int (.pair .int (.pair .int (.pair .int (.pair .int .int)))))⟩], [⟨false, .bool⟩], false, tendrillaw16_AskBack⟩
/-! tendril/tendrillaw16.AskLatch -/
def tendrillaw16_AskLatch (x : (Int × Int × Int × Int × Int) × (List Int × List Int × ((List Int × List Int × List Int × List Int) × (List Int × List Int × List Int × List Int) × List Int × List Int × List Int × List Int) × Int × List Int) × Int × Int × Int) : Option (Bool) :=
  (tendrillaw16_live (())).bind fun r0 =>
  bif !r0 then
    some (Bool.false)
  else
    (tendrilref07_Few ((x.snd.fst.1, x.snd.fst.snd.1, ((x.snd.fst.snd.snd.fst.fst.1, x.snd.fst.snd.snd.fst.fst.snd.1, x.snd.fst.snd.snd.fst.fst.snd.snd.1, x.snd.fst.snd.snd.fst.fst.snd.snd.2), (x.snd.fst.snd.snd.fst.snd.fst.1, x.snd.fst.snd.snd.fst.snd.fst.snd.1, x.snd.fst.snd.snd.fst.snd.fst.snd.snd.1, x.snd.fst.snd.snd.fst.snd.fst.snd.snd.2), x.snd.fst.snd.snd.fst.snd.snd.1, x.snd.fst.snd.snd.fst.snd.snd.snd.1, x.snd.fst.snd.snd.fst.snd.snd.snd.snd.1, x.snd.fst.snd.snd.fst.snd.snd.snd.snd.2), x.snd.fst.snd.snd.snd.1, x.snd.fst.snd.snd.snd.2))).bind fun r1 =>
    bif !r1 then
      some (Bool.true)
    else
      (ask_Do (((x.fst.1, x.fst.snd.1, x.fst.snd.snd.1, x.fst.snd.snd.snd.1, x.fst.snd.snd.snd.2), (x.snd.fst.1, x.snd.fst.snd.1, ((x.snd.fst.snd.snd.fst.fst.1, x.snd.fst.snd.snd.fst.fst.snd.1, x.snd.fst.snd.snd.fst.fst.snd.snd.1, x.snd.fst.snd.snd.fst.fst.snd.snd.2), (x.snd.fst.snd.snd.fst.snd.fst.1, x.snd.fst.snd.snd.fst.snd.fst.snd.1, x.snd.fst.snd.snd.fst.snd.fst.snd.snd.1, x.snd.fst.snd.snd.fst.snd.fst.snd.snd.2), x.snd.fst.snd.snd.fst.snd.snd.1, x.snd.fst.snd.snd.fst.snd.snd.snd.1, x.snd.fst.snd.snd.fst.snd.snd.snd.snd.1, x.snd.fst.snd.snd.fst.snd.snd.snd.snd.2), x.snd.fst.snd.snd.snd.1, x.snd.fst.snd.snd.snd.2), x.snd.snd.1, (5 : Int), x.snd.snd.snd.2, (0 : Int), (0 : Int), (0 : Int), (0 : Int)))).bind fun r2 =>
      bif r2.snd.snd.2 != (0 : Int) then
        (shape_Check (((x.fst.1, x.fst.snd.1, x.fst.snd.snd.1, x.fst.snd.snd.snd.1, x.fst.snd.snd.snd.2), x.snd.fst.1, x.snd.fst.snd.1, ((x.snd.fst.snd.snd.fst.fst.1, x.snd.fst.snd.snd.fst.fst.snd.1, x.snd.fst.snd.snd.fst.fst.snd.snd.1, x.snd.fst.snd.snd.fst.fst.snd.snd.2), (x.snd.fst.snd.snd.fst.snd.fst.1, x.snd.fst.snd.snd.fst.snd.fst.snd.1, x.snd.fst.snd.snd.fst.snd.fst.snd.snd.1, x.snd.fst.snd.snd.fst.snd.fst.snd.snd.2), x.snd.fst.snd.snd.fst.snd.snd.1, x.snd.fst.snd.snd.fst.snd.snd.snd.1, x.snd.fst.snd.snd.fst.snd.snd.snd.snd.1, x.snd.fst.snd.snd.fst.snd.snd.snd.snd.2), x.snd.fst.snd.snd.snd.1, x.snd.fst.snd.snd.snd.2))).bind fun r3 =>
        bif r3 != (0 : Int) then
          some (Bool.true)
        else
          bif Decidable.decide (x.snd.snd.snd.2 < (0 : Int)) then
            some (Bool.true)
          else
            bif Decidable.decide (x.fst.snd.snd.snd.1 < x.snd.snd.snd.2) then
              some (Bool.true)
            else
              (ask_Waits (((x.snd.fst.1, x.snd.fst.snd.1, ((x.snd.fst.snd.snd.fst.fst.1, x.snd.fst.snd.snd.fst.fst.snd.1, x.snd.fst.snd.snd.fst.fst.snd.snd.1, x.snd.fst.snd.snd.fst.fst.snd.snd.2), (x.snd.fst.snd.snd.fst.snd.fst.1, x.snd.fst.snd.snd.fst.snd.fst.snd.1, x.snd.fst.snd.snd.fst.snd.fst.snd.snd.1, x.snd.fst.snd.snd.fst.snd.fst.snd.snd.2), x.snd.fst.snd.snd.fst.snd.snd.1, x.snd.fst.snd.snd.fst.snd.snd.snd.1, x.snd.fst.snd.snd.fst.snd.snd.snd.snd.1, x.snd.fst.snd.snd.fst.snd.snd.snd.snd.2), x.snd.fst.snd.snd.snd.1, x.snd.fst.snd.snd.snd.2), (5 : Int), x.snd.snd.snd.2, (0 : Int), (0 : Int), (0 : Int), (0 : Int)))).bind fun r4 =>
              bif r4 then
                some (Bool.true)
              else
                bif Decidable.decide ((0 : Int) ≤ x.snd.snd.snd.2) then
                  bif Decidable.decide (x.snd.snd.snd.2 < (↑(List.length x.snd.fst.snd.1) : Int)) then
                    some (List.getD x.snd.fst.snd.1 (Int.toNat x.snd.snd.snd.2) (0 : Int) == (4611686018427387904 : Int))
                  else
                    none
                else
                  none
      else
        (ask_Do (((x.fst.1, x.fst.snd.1, x.fst.snd.snd.1, x.fst.snd.snd.snd.1, x.fst.snd.snd.snd.2), (r2.fst.1, r2.fst.snd.1, ((r2.fst.snd.snd.fst.fst.1, r2.fst.snd.snd.fst.fst.snd.1, r2.fst.snd.snd.fst.fst.snd.snd.1, r2.fst.snd.snd.fst.fst.snd.snd.2), (r2.fst.snd.snd.fst.snd.fst.1, r2.fst.snd.snd.fst.snd.fst.snd.1, r2.fst.snd.snd.fst.snd.fst.snd.snd.1, r2.fst.snd.snd.fst.snd.fst.snd.snd.2), r2.fst.snd.snd.fst.snd.snd.1, r2.fst.snd.snd.fst.snd.snd.snd.1, r2.fst.snd.snd.fst.snd.snd.snd.snd.1, r2.fst.snd.snd.fst.snd.snd.snd.snd.2), r2.fst.snd.snd.snd.1, r2.fst.snd.snd.snd.2), x.snd.snd.snd.1, (5 : Int), x.snd.snd.snd.2, (0 : Int), (0 : Int), (0 : Int), (0 : Int)))).bind fun r5 =>
        (ask_Do (((x.fst.1, x.fst.snd.1, x.fst.snd.snd.1, x.fst.snd.snd.snd.1, x.fst.snd.snd.snd.2), (r2.fst.1, r2.fst.snd.1, ((r2.fst.snd.snd.fst.fst.1, r2.fst.snd.snd.fst.fst.snd.1, r2.fst.snd.snd.fst.fst.snd.snd.1, r2.fst.snd.snd.fst.fst.snd.snd.2), (r2.fst.snd.snd.fst.snd.fst.1, r2.fst.snd.snd.fst.snd.fst.snd.1, r2.fst.snd.snd.fst.snd.fst.snd.snd.1, r2.fst.snd.snd.fst.snd.fst.snd.snd.2), r2.fst.snd.snd.fst.snd.snd.1, r2.fst.snd.snd.fst.snd.snd.snd.1, r2.fst.snd.snd.fst.snd.snd.snd.snd.1, r2.fst.snd.snd.fst.snd.snd.snd.snd.2), r2.fst.snd.snd.snd.1, r2.fst.snd.snd.snd.2), x.snd.snd.snd.1, (7 : Int), x.snd.snd.snd.2, (0 : Int), (0 : Int), (0 : Int), (0 : Int)))).bind fun r6 =>
        (ask_Do (((x.fst.1, x.fst.snd.1, x.fst.snd.snd.1, x.fst.snd.snd.snd.1, x.fst.snd.snd.snd.2), (r2.fst.1, r2.fst.snd.1, ((r2.fst.snd.snd.fst.fst.1, r2.fst.snd.snd.fst.fst.snd.1, r2.fst.snd.snd.fst.fst.snd.snd.1, r2.fst.snd.snd.fst.fst.snd.snd.2), (r2.fst.snd.snd.fst.snd.fst.1, r2.fst.snd.snd.fst.snd.fst.snd.1, r2.fst.snd.snd.fst.snd.fst.snd.snd.1, r2.fst.snd.snd.fst.snd.fst.snd.snd.2), r2.fst.snd.snd.fst.snd.snd.1, r2.fst.snd.snd.fst.snd.snd.snd.1, r2.fst.snd.snd.fst.snd.snd.snd.snd.1, r2.fst.snd.snd.fst.snd.snd.snd.snd.2), r2.fst.snd.snd.snd.1, r2.fst.snd.snd.snd.2), x.snd.snd.1, (6 : Int), x.snd.snd.snd.2, (0 : Int), (0 : Int), (0 : Int), (0 : Int)))).bind fun r7 =>
        (ask_Do (((x.fst.1, x.fst.snd.1, x.fst.snd.snd.1, x.fst.snd.snd.snd.1, x.fst.snd.snd.snd.2), (x.snd.fst.1, x.snd.fst.snd.1, ((x.snd.fst.snd.snd.fst.fst.1, x.snd.fst.snd.snd.fst.fst.snd.1, x.snd.fst.snd.snd.fst.fst.snd.snd.1, x.snd.fst.snd.snd.fst.fst.snd.snd.2), (x.snd.fst.snd.snd.fst.snd.fst.1, x.snd.fst.snd.snd.fst.snd.fst.snd.1, x.snd.fst.snd.snd.fst.snd.fst.snd.snd.1, x.snd.fst.snd.snd.fst.snd.fst.snd.snd.2), x.snd.fst.snd.snd.fst.snd.snd.1, x.snd.fst.snd.snd.fst.snd.snd.snd.1, x.snd.fst.snd.snd.fst.snd.snd.snd.snd.1, x.snd.fst.snd.snd.fst.snd.snd.snd.snd.2), x.snd.fst.snd.snd.snd.1, x.snd.fst.snd.snd.snd.2), x.snd.snd.snd.1, (7 : Int), x.snd.snd.snd.2, (0 : Int), (0 : Int), (0 : Int), (0 : Int)))).bind fun r8 =>
        (ask_Do (((x.fst.1, x.fst.snd.1, x.fst.snd.snd.1, x.fst.snd.snd.snd.1, x.fst.snd.snd.snd.2), (r7.fst.1, r7.fst.snd.1, ((r7.fst.snd.snd.fst.fst.1, r7.fst.snd.snd.fst.fst.snd.1, r7.fst.snd.snd.fst.fst.snd.snd.1, r7.fst.snd.snd.fst.fst.snd.snd.2), (r7.fst.snd.snd.fst.snd.fst.1, r7.fst.snd.snd.fst.snd.fst.snd.1, r7.fst.snd.snd.fst.snd.fst.snd.snd.1, r7.fst.snd.snd.fst.snd.fst.snd.snd.2), r7.fst.snd.snd.fst.snd.snd.1, r7.fst.snd.snd.fst.snd.snd.snd.1, r7.fst.snd.snd.fst.snd.snd.snd.snd.1, r7.fst.snd.snd.fst.snd.snd.snd.snd.2), r7.fst.snd.snd.snd.1, r7.fst.snd.snd.snd.2), x.snd.snd.snd.1, (7 : Int), x.snd.snd.snd.2, (0 : Int), (0 : Int), (0 : Int), (0 : Int)))).bind fun r9 =>
        bif r5.snd.snd.2 == (2 : Int) then
          bif r6.snd.snd.2 == (2 : Int) then
            bif r7.snd.snd.2 == (0 : Int) then
              bif r8.snd.snd.2 == (0 : Int) then
                bif r9.snd.snd.2 == (0 : Int) then
                  some (r9.snd.1 == Go.RowKit.wrap64 (r8.snd.1 + (2 : Int)))
                else
                  some (Bool.false)
              else
                some (Bool.false)
            else
              some (Bool.false)
          else
            some (Bool.false)
        else
          some (Bool.false)
def tendrillaw16_AskLatch_S : Sig := ⟨[⟨true, (.pair .int (.pair .int (.pair .int (.pair .int .int))))⟩, ⟨true, (.pair (.sl .int) (.pair (.sl .int) (.pair (.pair (.pair (.sl .int) (.pair (.sl .int) (.pair (.sl .int) (.sl .int)))) (.pair (.pair (.sl .int) (.pair (.sl .int) (.pair (.sl .int) (.sl .int)))) (.pair (.sl .int) (.pair (.sl .int) (.pair (.sl .int) (.sl .int)))))) (.pair .int (.sl .int)))))⟩, ⟨false, .int⟩, ⟨false, .int⟩, ⟨false, .int⟩], [⟨false, .bool⟩], false, tendrillaw16_AskLatch⟩
/-! tendril/tendrillaw16.AskTouches -/
def tendrillaw16_AskTouches (x : (Int × Int × Int × Int × Int) × (List Int × List Int × ((List Int × List Int × List Int × List Int) × (List Int × List Int × List Int × List Int) × List Int × List Int × List Int × List Int) × Int × List Int) × Int × Int × Int × Int × Int × Int × Int) : Option (Bool) :=
  (tendrillaw16_live (())).bind fun r0 =>
  bif !r0 then
    some (Bool.false)
  else
    (tendrilref07_Few ((x.snd.fst.1, x.snd.fst.snd.1, ((x.snd.fst.snd.snd.fst.fst.1, x.snd.fst.snd.snd.fst.fst.snd.1, x.snd.fst.snd.snd.fst.fst.snd.snd.1, x.snd.fst.snd.snd.fst.fst.snd.snd.2), (x.snd.fst.snd.snd.fst.snd.fst.1, x.snd.fst.snd.snd.fst.snd.fst.snd.1, x.snd.fst.snd.snd.fst.snd.fst.snd.snd.1, x.snd.fst.snd.snd.fst.snd.fst.snd.snd.2), x.snd.fst.snd.snd.fst.snd.snd.1, x.snd.fst.snd.snd.fst.snd.snd.snd.1, x.snd.fst.snd.snd.fst.snd.snd.snd.snd.1, x.snd.fst.snd.snd.fst.snd.snd.snd.snd.2), x.snd.fst.snd.snd.snd.1, x.snd.fst.snd.snd.snd.2))).bind fun r1 =>
    bif !r1 then
      some (Bool.true)
    else
      (ask_Do (((x.fst.1, x.fst.snd.1, x.fst.snd.snd.1, x.fst.snd.snd.snd.1, x.fst.snd.snd.snd.2), (x.snd.fst.1, x.snd.fst.snd.1, ((x.snd.fst.snd.snd.fst.fst.1, x.snd.fst.snd.snd.fst.fst.snd.1, x.snd.fst.snd.snd.fst.fst.snd.snd.1, x.snd.fst.snd.snd.fst.fst.snd.snd.2), (x.snd.fst.snd.snd.fst.snd.fst.1, x.snd.fst.snd.snd.fst.snd.fst.snd.1, x.snd.fst.snd.snd.fst.snd.fst.snd.snd.1, x.snd.fst.snd.snd.fst.snd.fst.snd.snd.2), x.snd.fst.snd.snd.fst.snd.snd.1, x.snd.fst.snd.snd.fst.snd.snd.snd.1, x.snd.fst.snd.snd.fst.snd.snd.snd.snd.1, x.snd.fst.snd.snd.fst.snd.snd.snd.snd.2), x.snd.fst.snd.snd.snd.1, x.snd.fst.snd.snd.snd.2), x.snd.snd.1, x.snd.snd.snd.1, x.snd.snd.snd.snd.1, x.snd.snd.snd.snd.snd.1, x.snd.snd.snd.snd.snd.snd.1, x.snd.snd.snd.snd.snd.snd.snd.1, x.snd.snd.snd.snd.snd.snd.snd.2))).bind fun r2 =>
      bif x.snd.snd.snd.1 == (3 : Int) then
        bif r2.snd.snd.2 != (0 : Int) then
          some ((↑(List.length r2.snd.snd.1) : Int) == (0 : Int))
        else
          bif !x.snd.snd.snd.snd.snd.1 != (0 : Int) then
            some ((↑(List.length r2.snd.snd.1) : Int) == (0 : Int))
          else
            (tag_Unpack (x.snd.snd.snd.snd.snd.snd.1)).bind fun r3 =>
            bif r3.snd.2 != (0 : Int) then
              some (Bool.false)
            else
              bif (↑(List.length r2.snd.snd.1) : Int) != (1 : Int) then
                some (Bool.false)
              else
                bif Decidable.decide (x.snd.snd.snd.snd.snd.1 < (1 : Int)) then
                  some (Bool.false)
                else
                  bif Decidable.decide ((3 : Int) < x.snd.snd.snd.snd.snd.1) then
                    some (Bool.false)
                  else
                    bif Decidable.decide (Go.RowKit.wrap64 (x.snd.snd.snd.snd.snd.1 - (1 : Int)) = (↑(nat_lit 2) : Int)) then
                      bif Decidable.decide ((↑(List.length x.snd.fst.snd.snd.fst.snd.snd.1) : Int) ≤ r3.1) then
                        some (Bool.false)
                      else
                        bif Decidable.decide ((0 : Int) < (↑(List.length r2.snd.snd.1) : Int)) then
                          bif Decidable.decide (Go.RowKit.wrap64 (x.snd.snd.snd.snd.snd.1 - (1 : Int)) = (↑(nat_lit 2) : Int)) then
                            bif (List.getD r2.snd.snd.fst (Int.toNat (0 : Int)) ((0 : Int), ((0 : Int), ((0 : Int), ((0 : Int), ((0 : Int), ((0 : Int), ((0 : Int), Bool.false)))))))).1 == x.snd.snd.1 then
                              bif (List.getD r2.snd.snd.fst (Int.toNat (0 : Int)) ((0 : Int), ((0 : Int), ((0 : Int), ((0 : Int), ((0 : Int), ((0 : Int), ((0 : Int), Bool.false)))))))).snd.1 == x.snd.snd.snd.snd.snd.1 then
                                bif (List.getD r2.snd.snd.fst (Int.toNat (0 : Int)) ((0 : Int), ((0 : Int), ((0 : Int), ((0 : Int), ((0 : Int), ((0 : Int), ((0 : Int), Bool.false)))))))).snd.snd.1 == r3.1 then
                                  bif (List.getD r2.snd.snd.fst (Int.toNat (0 : Int)) ((0 : Int), ((0 : Int), ((0 : Int), ((0 : Int), ((0 : Int), ((0 : Int), ((0 : Int), Bool.false)))))))).snd.snd.snd.1 == x.snd.snd.snd.snd.snd.snd.snd.1 then
                                    bif (List.getD r2.snd.snd.fst (Int.toNat (0 : Int)) ((0 : Int), ((0 : Int), ((0 : Int), ((0 : Int), ((0 : Int), ((0 : Int), ((0 : Int), Bool.false)))))))).snd.snd.snd.snd.1 == r3.snd.1 then
                                      bif Decidable.decide ((0 : Int) ≤ r3.1) then
                                        bif Decidable.decide (r3.1 < (↑(List.length x.snd.fst.snd.snd.fst.snd.snd.1) : Int)) then
                                          bif (List.getD r2.snd.snd.fst (Int.toNat (0 : Int)) ((0 : Int), ((0 : Int), ((0 : Int), ((0 : Int), ((0 : Int), ((0 : Int), ((0 : Int), Bool.false)))))))).snd.snd.snd.snd.snd.1 == List.getD x.snd.fst.snd.snd.fst.snd.snd.1 (Int.toNat r3.1) (0 : Int) then
                                            bif Decidable.decide ((0 : Int) ≤ r3.1) then
                                              bif Decidable.decide (r3.1 < (↑(List.length x.snd.fst.snd.snd.fst.snd.snd.snd.1) : Int)) then
                                                bif (List.getD r2.snd.snd.fst (Int.toNat (0 : Int)) ((0 : Int), ((0 : Int), ((0 : Int), ((0 : Int), ((0 : Int), ((0 : Int), ((0 : Int), Bool.false)))))))).snd.snd.snd.snd.snd.snd.1 == List.getD x.snd.fst.snd.snd.fst.snd.snd.snd.1 (Int.toNat r3.1) (0 : Int) then
                                                  some ((List.getD r2.snd.snd.fst (Int.toNat (0 : Int)) ((0 : Int), ((0 : Int), ((0 : Int), ((0 : Int), ((0 : Int), ((0 : Int), ((0 : Int), Bool.false)))))))).snd.snd.snd.snd.snd.snd.2 == (x.snd.snd.snd.1 == (4 : Int)))
                                                else
                                                  some (Bool.false)
                                              else
                                                none
                                            else
                                              none
                                          else
                                            some (Bool.false)
                                        else
                                          none
                                      else
                                        none
                                    else
                                      some (Bool.false)
                                  else
                                    some (Bool.false)
                                else
                                  some (Bool.false)
                              else
                                some (Bool.false)
                            else
                              some (Bool.false)
                          else
                            bif Decidable.decide (Go.RowKit.wrap64 (x.snd.snd.snd.snd.snd.1 - (1 : Int)) = (↑(nat_lit 1) : Int)) then
                              bif (List.getD r2.snd.snd.fst (Int.toNat (0 : Int)) ((0 : Int), ((0 : Int), ((0 : Int), ((0 : Int), ((0 : Int), ((0 : Int), ((0 : Int), Bool.false)))))))).1 == x.snd.snd.1 then
                                bif (List.getD r2.snd.snd.fst (Int.toNat (0 : Int)) ((0 : Int), ((0 : Int), ((0 : Int), ((0 : Int), ((0 : Int), ((0 : Int), ((0 : Int), Bool.false)))))))).snd.1 == x.snd.snd.snd.snd.snd.1 then
                                  bif (List.getD r2.snd.snd.fst (Int.toNat (0 : Int)) ((0 : Int), ((0 : Int), ((0 : Int), ((0 : Int), ((0 : Int), ((0 : Int), ((0 : Int), Bool.false)))))))).snd.snd.1 == r3.1 then
                                    bif (List.getD r2.snd.snd.fst (Int.toNat (0 : Int)) ((0 : Int), ((0 : Int), ((0 : Int), ((0 : Int), ((0 : Int), ((0 : Int), ((0 : Int), Bool.false)))))))).snd.snd.snd.1 == x.snd.snd.snd.snd.snd.snd.snd.1 then
                                      bif (List.getD r2.snd.snd.fst (Int.toNat (0 : Int)) ((0 : Int), ((0 : Int), ((0 : Int), ((0 : Int), ((0 : Int), ((0 : Int), ((0 : Int), Bool.false)))))))).snd.snd.snd.snd.1 == r3.snd.1 then
                                        bif Decidable.decide ((0 : Int) ≤ r3.1) then
                                          bif Decidable.decide (r3.1 < (↑(List.length x.snd.fst.snd.snd.fst.snd.fst.1) : Int)) then
                                            bif (List.getD r2.snd.snd.fst (Int.toNat (0 : Int)) ((0 : Int), ((0 : Int), ((0 : Int), ((0 : Int), ((0 : Int), ((0 : Int), ((0 : Int), Bool.false)))))))).snd.snd.snd.snd.snd.1 == List.getD x.snd.fst.snd.snd.fst.snd.fst.1 (Int.toNat r3.1) (0 : Int) then
                                              bif Decidable.decide ((0 : Int) ≤ r3.1) then
                                                bif Decidable.decide (r3.1 < (↑(List.length x.snd.fst.snd.snd.fst.snd.fst.snd.1) : Int)) then
                                                  bif (List.getD r2.snd.snd.fst (Int.toNat (0 : Int)) ((0 : Int), ((0 : Int), ((0 : Int), ((0 : Int), ((0 : Int), ((0 : Int), ((0 : Int), Bool.false)))))))).snd.snd.snd.snd.snd.snd.1 == List.getD x.snd.fst.snd.snd.fst.snd.fst.snd.1 (Int.toNat r3.1) (0 : Int) then
                                                    some ((List.getD r2.snd.snd.fst (Int.toNat (0 : Int)) ((0 : Int), ((0 : Int), ((0 : Int), ((0 : Int), ((0 : Int), ((0 : Int), ((0 : Int), Bool.false)))))))).snd.snd.snd.snd.snd.snd.2 == (x.snd.snd.snd.1 == (4 : Int)))
                                                  else
                                                    some (Bool.false)
                                                else
                                                  none
                                              else
                                                none
                                            else
                                              some (Bool.false)
                                          else
                                            none
                                        else
                                          none
                                      else
                                        some (Bool.false)
                                    else
                                      some (Bool.false)
                                  else
                                    some (Bool.false)
                                else
                                  some (Bool.false)
                              else
                                some (Bool.false)
                            else
                              bif Decidable.decide (Go.RowKit.wrap64 (x.snd.snd.snd.snd.snd.1 - (1 : Int)) = (↑(nat_lit 0) : Int)) then
                                bif (List.getD r2.snd.snd.fst (Int.toNat (0 : Int)) ((0 : Int), ((0 : Int), ((0 : Int), ((0 : Int), ((0 : Int), ((0 : Int), ((0 : Int), Bool.false)))))))).1 == x.snd.snd.1 then
                                  bif (List.getD r2.snd.snd.fst (Int.toNat (0 : Int)) ((0 : Int), ((0 : Int), ((0 : Int), ((0 : Int), ((0 : Int), ((0 : Int), ((0 : Int), Bool.false)))))))).snd.1 == x.snd.snd.snd.snd.snd.1 then
                                    bif (List.getD r2.snd.snd.fst (Int.toNat (0 : Int)) ((0 : Int), ((0 : Int), ((0 : Int), ((0 : Int), ((0 : Int), ((0 : Int), ((0 : Int), Bool.false)))))))).snd.snd.1 == r3.1 then
                                      bif (List.getD r2.snd.snd.fst (Int.toNat (0 : Int)) ((0 : Int), ((0 : Int), ((0 : Int), ((0 : Int), ((0 : Int), ((0 : Int), ((0 : Int), Bool.false)))))))).snd.snd.snd.1 == x.snd.snd.snd.snd.snd.snd.snd.1 then
                                        bif (List.getD r2.snd.snd.fst (Int.toNat (0 : Int)) ((0 : Int), ((0 : Int), ((0 : Int), ((0 : Int), ((0 : Int), ((0 : Int), ((0 : Int), Bool.false)))))))).snd.snd.snd.snd.1 == r3.snd.1 then
                                          bif Decidable.decide ((0 : Int) ≤ r3.1) then
                                            bif Decidable.decide (r3.1 < (↑(List.length x.snd.fst.snd.snd.fst.fst.1) : Int)) then
                                              bif (List.getD r2.snd.snd.fst (Int.toNat (0 : Int)) ((0 : Int), ((0 : Int), ((0 : Int), ((0 : Int), ((0 : Int), ((0 : Int), ((0 : Int), Bool.false)))))))).snd.snd.snd.snd.snd.1 == List.getD x.snd.fst.snd.snd.fst.fst.1 (Int.toNat r3.1) (0 : Int) then
                                                bif Decidable.decide ((0 : Int) ≤ r3.1) then
                                                  bif Decidable.decide (r3.1 < (↑(List.length x.snd.fst.snd.snd.fst.fst.snd.1) : Int)) then
                                                    bif (List.getD r2.snd.snd.fst (Int.toNat (0 : Int)) ((0 : Int), ((0 : Int), ((0 : Int), ((0 : Int), ((0 : Int), ((0 : Int), ((0 : Int), Bool.false)))))))).snd.snd.snd.snd.snd.snd.1 == List.getD x.snd.fst.snd.snd.fst.fst.snd.1 (Int.toNat r3.1) (0 : Int) then
                                                      some ((List.getD r2.snd.snd.fst (Int.toNat (0 : Int)) ((0 : Int), ((0 : Int), ((0 : Int), ((0 : Int), ((0 : Int), ((0 : Int), ((0 : Int), Bool.false)))))))).snd.snd.snd.snd.snd.snd.2 == (x.snd.snd.snd.1 == (4 : Int)))
                                                    else
                                                      some (Bool.false)
                                                  else
                                                    none
                                                else
                                                  none
                                              else
                                                some (Bool.false)
                                            else
                                              none
                                          else
                                            none
                                        else
                                          some (Bool.false)
                                      else
                                        some (Bool.false)
                                    else
                                      some (Bool.false)
                                  else
                                    some (Bool.false)
                                else
                                  some (Bool.false)
                              else
                                none
                        else
                          none
                    else
                      bif Decidable.decide (Go.RowKit.wrap64 (x.snd.snd.snd.snd.snd.1 - (1 : Int)) = (↑(nat_lit 1) : Int)) then
                        bif Decidable.decide ((↑(List.length x.snd.fst.snd.snd.fst.snd.fst.1) : Int) ≤ r3.1) then
                          some (Bool.false)
                        else
                          bif Decidable.decide ((0 : Int) < (↑(List.length r2.snd.snd.1) : Int)) then
                            bif Decidable.decide (Go.RowKit.wrap64 (x.snd.snd.snd.snd.snd.1 - (1 : Int)) = (↑(nat_lit 2) : Int)) then
                              bif (List.getD r2.snd.snd.fst (Int.toNat (0 : Int)) ((0 : Int), ((0 : Int), ((0 : Int), ((0 : Int), ((0 : Int), ((0 : Int), ((0 : Int), Bool.false)))))))).1 == x.snd.snd.1 then
                                bif (List.getD r2.snd.snd.fst (Int.toNat (0 : Int)) ((0 : Int), ((0 : Int), ((0 : Int), ((0 : Int), ((0 : Int), ((0 : Int), ((0 : Int), Bool.false)))))))).snd.1 == x.snd.snd.snd.snd.snd.1 then
                                  bif (List.getD r2.snd.snd.fst (Int.toNat (0 : Int)) ((0 : Int), ((0 : Int), ((0 : Int), ((0 : Int), ((0 : Int), ((0 : Int), ((0 : Int), Bool.false)))))))).snd.snd.1 == r3.1 then
                                    bif (List.getD r2.snd.snd.fst (Int.toNat (0 : Int)) ((0 : Int), ((0 : Int), ((0 : Int), ((0 : Int), ((0 : Int), ((0 : Int), ((0 : Int), Bool.false)))))))).snd.snd.snd.1 == x.snd.snd.snd.snd.snd.snd.snd.1 then
                                      bif (List.getD r2.snd.snd.fst (Int.toNat (0 : Int)) ((0 : Int), ((0 : Int), ((0 : Int), ((0 : Int), ((0 : Int), ((0 : Int), ((0 : Int), Bool.false)))))))).snd.snd.snd.snd.1 == r3.snd.1 then
                                        bif Decidable.decide ((0 : Int) ≤ r3.1) then
                                          bif Decidable.decide (r3.1 < (↑(List.length x.snd.fst.snd.snd.fst.snd.snd.1) : Int)) then
                                            bif (List.getD r2.snd.snd.fst (Int.toNat (0 : Int)) ((0 : Int), ((0 : Int), ((0 : Int), ((0 : Int), ((0 : Int), ((0 : Int), ((0 : Int), Bool.false)))))))).snd.snd.snd.snd.snd.1 == List.getD x.snd.fst.snd.snd.fst.snd.snd.1 (Int.toNat r3.1) (0 : Int) then
                                              bif Decidable.decide ((0 : Int) ≤ r3.1) then
                                                bif Decidable.decide (r3.1 < (↑(List.length x.snd.fst.snd.snd.fst.snd.snd.snd.1) : Int)) then
                                                  bif (List.getD r2.snd.snd.fst (Int.toNat (0 : Int)) ((0 : Int), ((0 : Int), ((0 : Int), ((0 : Int), ((0 : Int), ((0 : Int), ((0 : Int), Bool.false)))))))).snd.snd.snd.snd.snd.snd.1 == List.getD x.snd.fst.snd.snd.fst.snd.snd.snd.1 (Int.toNat r3.1) (0 : Int) then
                                                    some ((List.getD r2.snd.snd.fst (Int.toNat (0 : Int)) ((0 : Int), ((0 : Int), ((0 : Int), ((0 : Int), ((0 : Int), ((0 : Int), ((0 : Int), Bool.false)))))))).snd.snd.snd.snd.snd.snd.2 == (x.snd.snd.snd.1 == (4 : Int)))
                                                  else
                                                    some (Bool.false)
                                                else
                                                  none
                                              else
                                                none
                                            else
                                              some (Bool.false)
                                          else
                                            none
                                        else
                                          none
                                      else
                                        some (Bool.false)
                                    else
                                      some (Bool.false)
                                  else
                                    some (Bool.false)
                                else
                                  some (Bool.false)
                              else
                                some (Bool.false)
                            else
                              bif Decidable.decide (Go.RowKit.wrap64 (x.snd.snd.snd.snd.snd.1 - (1 : Int)) = (↑(nat_lit 1) : Int)) then
                                bif (List.getD r2.snd.snd.fst (Int.toNat (0 : Int)) ((0 : Int), ((0 : Int), ((0 : Int), ((0 : Int), ((0 : Int), ((0 : Int), ((0 : Int), Bool.false)))))))).1 == x.snd.snd.1 then
                                  bif (List.getD r2.snd.snd.fst (Int.toNat (0 : Int)) ((0 : Int), ((0 : Int), ((0 : Int), ((0 : Int), ((0 : Int), ((0 : Int), ((0 : Int), Bool.false)))))))).snd.1 == x.snd.snd.snd.snd.snd.1 then
                                    bif (List.getD r2.snd.snd.fst (Int.toNat (0 : Int)) ((0 : Int), ((0 : Int), ((0 : Int), ((0 : Int), ((0 : Int), ((0 : Int), ((0 : Int), Bool.false)))))))).snd.snd.1 == r3.1 then
                                      bif (List.getD r2.snd.snd.fst (Int.toNat (0 : Int)) ((0 : Int), ((0 : Int), ((0 : Int), ((0 : Int), ((0 : Int), ((0 : Int), ((0 : Int), Bool.false)))))))).snd.snd.snd.1 == x.snd.snd.snd.snd.snd.snd.snd.1 then
                                        bif (List.getD r2.snd.snd.fst (Int.toNat (0 : Int)) ((0 : Int), ((0 : Int), ((0 : Int), ((0 : Int), ((0 : Int), ((0 : Int), ((0 : Int), Bool.false)))))))).snd.snd.snd.snd.1 == r3.snd.1 then
                                          bif Decidable.decide ((0 : Int) ≤ r3.1) then
                                            bif Decidable.decide (r3.1 < (↑(List.length x.snd.fst.snd.snd.fst.snd.fst.1) : Int)) then
                                              bif (List.getD r2.snd.snd.fst (Int.toNat (0 : Int)) ((0 : Int), ((0 : Int), ((0 : Int), ((0 : Int), ((0 : Int), ((0 : Int), ((0 : Int), Bool.false)))))))).snd.snd.snd.snd.snd.1 == List.getD x.snd.fst.snd.snd.fst.snd.fst.1 (Int.toNat r3.1) (0 : Int) then
                                                bif Decidable.decide ((0 : Int) ≤ r3.1) then
                                                  bif Decidable.decide (r3.1 < (↑(List.length x.snd.fst.snd.snd.fst.snd.fst.snd.1) : Int)) then
                                                    bif (List.getD r2.snd.snd.fst (Int.toNat (0 : Int)) ((0 : Int), ((0 : Int), ((0 : Int), ((0 : Int), ((0 : Int), ((0 : Int), ((0 : Int), Bool.false)))))))).snd.snd.snd.snd.snd.snd.1 == List.getD x.snd.fst.snd.snd.fst.snd.fst.snd.1 (Int.toNat r3.1) (0 : Int) then
                                                      some ((List.getD r2.snd.snd.fst (Int.toNat (0 : Int)) ((0 : Int), ((0 : Int), ((0 : Int), ((0 : Int), ((0 : Int), ((0 : Int), ((0 : Int), Bool.false)))))))).snd.snd.snd.snd.snd.snd.2 == (x.snd.snd.snd.1 == (4 : Int)))
                                                    else
                                                      some (Bool.false)
                                                  else
                                                    none
                                                else
                                                  none
                                              else
                                                some (Bool.false)
                                            else
                                              none
                                          else
                                            none
                                        else
                                          some (Bool.false)
                                      else
                                        some (Bool.false)
                                    else
                                      some (Bool.false)
                                  else
                                    some (Bool.false)
                                else
                                  some (Bool.false)
                              else
                                bif Decidable.decide (Go.RowKit.wrap64 (x.snd.snd.snd.snd.snd.1 - (1 : Int)) = (↑(nat_lit 0) : Int)) then
                                  bif (List.getD r2.snd.snd.fst (Int.toNat (0 : Int)) ((0 : Int), ((0 : Int), ((0 : Int), ((0 : Int), ((0 : Int), ((0 : Int), ((0 : Int), Bool.false)))))))).1 == x.snd.snd.1 then
                                    bif (List.getD r2.snd.snd.fst (Int.toNat (0 : Int)) ((0 : Int), ((0 : Int), ((0 : Int), ((0 : Int), ((0 : Int), ((0 : Int), ((0 : Int), Bool.false)))))))).snd.1 == x.snd.snd.snd.snd.snd.1 then
                                      bif (List.getD r2.snd.snd.fst (Int.toNat (0 : Int)) ((0 : Int), ((0 : Int), ((0 : Int), ((0 : Int), ((0 : Int), ((0 : Int), ((0 : Int), Bool.false)))))))).snd.snd.1 == r3.1 then
                                        bif (List.getD r2.snd.snd.fst (Int.toNat (0 : Int)) ((0 : Int), ((0 : Int), ((0 : Int), ((0 : Int), ((0 : Int), ((0 : Int), ((0 : Int), Bool.false)))))))).snd.snd.snd.1 == x.snd.snd.snd.snd.snd.snd.snd.1 then
                                          bif (List.getD r2.snd.snd.fst (Int.toNat (0 : Int)) ((0 : Int), ((0 : Int), ((0 : Int), ((0 : Int), ((0 : Int), ((0 : Int), ((0 : Int), Bool.false)))))))).snd.snd.snd.snd.1 == r3.snd.1 then
                                            bif Decidable.decide ((0 : Int) ≤ r3.1) then
                                              bif Decidable.decide (r3.1 < (↑(List.length x.snd.fst.snd.snd.fst.fst.1) : Int)) then
                                                bif (List.getD r2.snd.snd.fst (Int.toNat (0 : Int)) ((0 : Int), ((0 : Int), ((0 : Int), ((0 : Int), ((0 : Int), ((0 : Int), ((0 : Int), Bool.false)))))))).snd.snd.snd.snd.snd.1 == List.getD x.snd.fst.snd.snd.fst.fst.1 (Int.toNat r3.1) (0 : Int) then
                                                  bif Decidable.decide ((0 : Int) ≤ r3.1) then
                                                    bif Decidable.decide (r3.1 < (↑(List.length x.snd.fst.snd.snd.fst.fst.snd.1) : Int)) then
                                                      bif (List.getD r2.snd.snd.fst (Int.toNat (0 : Int)) ((0 : Int), ((0 : Int), ((0 : Int), ((0 : Int), ((0 : Int), ((0 : Int), ((0 : Int), Bool.false)))))))).snd.snd.snd.snd.snd.snd.1 == List.getD x.snd.fst.snd.snd.fst.fst.snd.1 (Int.toNat r3.1) (0 : Int) then
                                                        some ((List.getD r2.snd.snd.fst (Int.toNat (0 : Int)) ((0 : Int), ((0 : Int), ((0 : Int), ((0 : Int), ((0 : Int), ((0 : Int), ((0 : Int), Bool.false)))))))).snd.snd.snd.snd.snd.snd.2 == (x.snd.snd.snd.1 == (4 : Int)))
                                                      else
                                                        some (Bool.false)
                                                    else
                                                      none
                                                  else
                                                    none
                                                else
                                                  some (Bool.false)
                                              else
                                                none
                                            else
                                              none
                                          else
                                            some (Bool.false)
                                        else
                                          some (Bool.false)
                                      else
                                        some (Bool.false)
                                    else
                                      some (Bool.false)
                                  else
                                    some (Bool.false)
                                else
                                  none
                          else
                            none
                      else
                        bif Decidable.decide (Go.RowKit.wrap64 (x.snd.snd.snd.snd.snd.1 - (1 : Int)) = (↑(nat_lit 0) : Int)) then
                          bif Decidable.decide ((↑(List.length x.snd.fst.snd.snd.fst.fst.1) : Int) ≤ r3.1) then
                            some (Bool.false)
                          else
                            bif Decidable.decide ((0 : Int) < (↑(List.length r2.snd.snd.1) : Int)) then
                              bif Decidable.decide (Go.RowKit.wrap64 (x.snd.snd.snd.snd.snd.1 - (1 : Int)) = (↑(nat_lit 2) : Int)) then
                                bif (List.getD r2.snd.snd.fst (Int.toNat (0 : Int)) ((0 : Int), ((0 : Int), ((0 : Int), ((0 : Int), ((0 : Int), ((0 : Int), ((0 : Int), Bool.false)))))))).1 == x.snd.snd.1 then
                                  bif (List.getD r2.snd.snd.fst (Int.toNat (0 : Int)) ((0 : Int), ((0 : Int), ((0 : Int), ((0 : Int), ((0 : Int), ((0 : Int), ((0 : Int), Bool.false)))))))).snd.1 == x.snd.snd.snd.snd.snd.1 then
                                    bif (List.getD r2.snd.snd.fst (Int.toNat (0 : Int)) ((0 : Int), ((0 : Int), ((0 : Int), ((0 : Int), ((0 : Int), ((0 : Int), ((0 : Int), Bool.false)))))))).snd.snd.1 == r3.1 then
                                      bif (List.getD r2.snd.snd.fst (Int.toNat (0 : Int)) ((0 : Int), ((0 : Int), ((0 : Int), ((0 : Int), ((0 : Int), ((0 : Int), ((0 : Int), Bool.false)))))))).snd.snd.snd.1 == x.snd.snd.snd.snd.snd.snd.snd.1 then
                                        bif (List.getD r2.snd.snd.fst (Int.toNat (0 : Int)) ((0 : Int), ((0 : Int), ((0 : Int), ((0 : Int), ((0 : Int), ((0 : Int), ((0 : Int), Bool.false)))))))).snd.snd.snd.snd.1 == r3.snd.1 then
                                          bif Decidable.decide ((0 : Int) ≤ r3.1) then
                                            bif Decidable.decide (r3.1 < (↑(List.length x.snd.fst.snd.snd.fst.snd.snd.1) : Int)) then
                                              bif (List.getD r2.snd.snd.fst (Int.toNat (0 : Int)) ((0 : Int), ((0 : Int), ((0 : Int), ((0 : Int), ((0 : Int), ((0 : Int), ((0 : Int), Bool.false)))))))).snd.snd.snd.snd.snd.1 == List.getD x.snd.fst.snd.snd.fst.snd.snd.1 (Int.toNat r3.1) (0 : Int) then
                                                bif Decidable.decide ((0 : Int) ≤ r3.1) then
                                                  bif Decidable.decide (r3.1 < (↑(List.length x.snd.fst.snd.snd.fst.snd.snd.snd.1) : Int)) then
                                                    bif (List.getD r2.snd.snd.fst (Int.toNat (0 : Int)) ((0 : Int), ((0 : Int), ((0 : Int), ((0 : Int), ((0 : Int), ((0 : Int), ((0 : Int), Bool.false)))))))).snd.snd.snd.snd.snd.snd.1 == List.getD x.snd.fst.snd.snd.fst.snd.snd.snd.1 (Int.toNat r3.1) (0 : Int) then
                                                      some ((List.getD r2.snd.snd.fst (Int.toNat (0 : Int)) ((0 : Int), ((0 : Int), ((0 : Int), ((0 : Int), ((0 : Int), ((0 : Int), ((0 : Int), Bool.false)))))))).snd.snd.snd.snd.snd.snd.2 == (x.snd.snd.snd.1 == (4 : Int)))
                                                    else
                                                      some (Bool.false)
                                                  else
                                                    none
                                                else
                                                  none
                                              else
                                                some (Bool.false)
                                            else
                                              none
                                          else
                                            none
                                        else
                                          some (Bool.false)
                                      else
                                        some (Bool.false)
                                    else
                                      some (Bool.false)
                                  else
                                    some (Bool.false)
                                else
                                  some (Bool.false)
                              else
                                bif Decidable.decide (Go.RowKit.wrap64 (x.snd.snd.snd.snd.snd.1 - (1 : Int)) = (↑(nat_lit 1) : Int)) then
                                  bif (List.getD r2.snd.snd.fst (Int.toNat (0 : Int)) ((0 : Int), ((0 : Int), ((0 : Int), ((0 : Int), ((0 : Int), ((0 : Int), ((0 : Int), Bool.false)))))))).1 == x.snd.snd.1 then
                                    bif (List.getD r2.snd.snd.fst (Int.toNat (0 : Int)) ((0 : Int), ((0 : Int), ((0 : Int), ((0 : Int), ((0 : Int), ((0 : Int), ((0 : Int), Bool.false)))))))).snd.1 == x.snd.snd.snd.snd.snd.1 then
                                      bif (List.getD r2.snd.snd.fst (Int.toNat (0 : Int)) ((0 : Int), ((0 : Int), ((0 : Int), ((0 : Int), ((0 : Int), ((0 : Int), ((0 : Int), Bool.false)))))))).snd.snd.1 == r3.1 then
                                        bif (List.getD r2.snd.snd.fst (Int.toNat (0 : Int)) ((0 : Int), ((0 : Int), ((0 : Int), ((0 : Int), ((0 : Int), ((0 : Int), ((0 : Int), Bool.false)))))))).snd.snd.snd.1 == x.snd.snd.snd.snd.snd.snd.snd.1 then
                                          bif (List.getD r2.snd.snd.fst (Int.toNat (0 : Int)) ((0 : Int), ((0 : Int), ((0 : Int), ((0 : Int), ((0 : Int), ((0 : Int), ((0 : Int), Bool.false)))))))).snd.snd.snd.snd.1 == r3.snd.1 then
                                            bif Decidable.decide ((0 : Int) ≤ r3.1) then
                                              bif Decidable.decide (r3.1 < (↑(List.length x.snd.fst.snd.snd.fst.snd.fst.1) : Int)) then
                                                bif (List.getD r2.snd.snd.fst (Int.toNat (0 : Int)) ((0 : Int), ((0 : Int), ((0 : Int), ((0 : Int), ((0 : Int), ((0 : Int), ((0 : Int), Bool.false)))))))).snd.snd.snd.snd.snd.1 == List.getD x.snd.fst.snd.snd.fst.snd.fst.1 (Int.toNat r3.1) (0 : Int) then
                                                  bif Decidable.decide ((0 : Int) ≤ r3.1) then
                                                    bif Decidable.decide (r3.1 < (↑(List.length x.snd.fst.snd.snd.fst.snd.fst.snd.1) : Int)) then
                                                      bif (List.getD r2.snd.snd.fst (Int.toNat (0 : Int)) ((0 : Int), ((0 : Int), ((0 : Int), ((0 : Int), ((0 : Int), ((0 : Int), ((0 : Int), Bool.false)))))))).snd.snd.snd.snd.snd.snd.1 == List.getD x.snd.fst.snd.snd.fst.snd.fst.snd.1 (Int.toNat r3.1) (0 : Int) then
                                                        some ((List.getD r2.snd.snd.fst (Int.toNat (0 : Int)) ((0 : Int), ((0 : Int), ((0 : Int), ((0 : Int), ((0 : Int), ((0 : Int), ((0 : Int), Bool.false)))))))).snd.snd.snd.snd.snd.snd.2 == (x.snd.snd.snd.1 == (4 : Int)))
                                                      else
                                                        some (Bool.false)
                                                    else
                                                      none
                                                  else
                                                    none
                                                else
                                                  some (Bool.false)
                                              else
                                                none
                                            else
                                              none
                                          else
                                            some (Bool.false)
                                        else
                                          some (Bool.false)
                                      else
                                        some (Bool.false)
                                    else
                                      some (Bool.false)
                                  else
                                    some (Bool.false)
                                else
                                  bif Decidable.decide (Go.RowKit.wrap64 (x.snd.snd.snd.snd.snd.1 - (1 : Int)) = (↑(nat_lit 0) : Int)) then
                                    bif (List.getD r2.snd.snd.fst (Int.toNat (0 : Int)) ((0 : Int), ((0 : Int), ((0 : Int), ((0 : Int), ((0 : Int), ((0 : Int), ((0 : Int), Bool.false)))))))).1 == x.snd.snd.1 then
                                      bif (List.getD r2.snd.snd.fst (Int.toNat (0 : Int)) ((0 : Int), ((0 : Int), ((0 : Int), ((0 : Int), ((0 : Int), ((0 : Int), ((0 : Int), Bool.false)))))))).snd.1 == x.snd.snd.snd.snd.snd.1 then
                                        bif (List.getD r2.snd.snd.fst (Int.toNat (0 : Int)) ((0 : Int), ((0 : Int), ((0 : Int), ((0 : Int), ((0 : Int), ((0 : Int), ((0 : Int), Bool.false)))))))).snd.snd.1 == r3.1 then
                                          bif (List.getD r2.snd.snd.fst (Int.toNat (0 : Int)) ((0 : Int), ((0 : Int), ((0 : Int), ((0 : Int), ((0 : Int), ((0 : Int), ((0 : Int), Bool.false)))))))).snd.snd.snd.1 == x.snd.snd.snd.snd.snd.snd.snd.1 then
                                            bif (List.getD r2.snd.snd.fst (Int.toNat (0 : Int)) ((0 : Int), ((0 : Int), ((0 : Int), ((0 : Int), ((0 : Int), ((0 : Int), ((0 : Int), Bool.false)))))))).snd.snd.snd.snd.1 == r3.snd.1 then
                                              bif Decidable.decide ((0 : Int) ≤ r3.1) then
                                                bif Decidable.decide (r3.1 < (↑(List.length x.snd.fst.snd.snd.fst.fst.1) : Int)) then
                                                  bif (List.getD r2.snd.snd.fst (Int.toNat (0 : Int)) ((0 : Int), ((0 : Int), ((0 : Int), ((0 : Int), ((0 : Int), ((0 : Int), ((0 : Int), Bool.false)))))))).snd.snd.snd.snd.snd.1 == List.getD x.snd.fst.snd.snd.fst.fst.1 (Int.toNat r3.1) (0 : Int) then
                                                    bif Decidable.decide ((0 : Int) ≤ r3.1) then
                                                      bif Decidable.decide (r3.1 < (↑(List.length x.snd.fst.snd.snd.fst.fst.snd.1) : Int)) then
                                                        bif (List.getD r2.snd.snd.fst (Int.toNat (0 : Int)) ((0 : Int), ((0 : Int), ((0 : Int), ((0 : Int), ((0 : Int), ((0 : Int), ((0 : Int), Bool.false)))))))).snd.snd.snd.snd.snd.snd.1 == List.getD x.snd.fst.snd.snd.fst.fst.snd.1 (Int.toNat r3.1) (0 : Int) then
                                                          some ((List.getD r2.snd.snd.fst (Int.toNat (0 : Int)) ((0 : Int), ((0 : Int), ((0 : Int), ((0 : Int), ((0 : Int), ((0 : Int), ((0 : Int), Bool.false)))))))).snd.snd.snd.snd.snd.snd.2 == (x.snd.snd.snd.1 == (4 : Int)))
                                                        else
                                                          some (Bool.false)
                                                      else
                                                        none
                                                    else
                                                      none
                                                  else
                                                    some (Bool.false)
                                                else
                                                  none
                                              else
                                                none
                                            else
                                              some (Bool.false)
                                          else
                                            some (Bool.false)
                                        else
                                          some (Bool.false)
                                      else
                                        some (Bool.false)
                                    else
                                      some (Bool.false)
                                  else
                                    none
                            else
                              none
                        else
                          none
      else
        bif x.snd.snd.snd.1 == (4 : Int) then
          bif r2.snd.snd.2 != (0 : Int) then
            some ((↑(List.length r2.snd.snd.1) : Int) == (0 : Int))
          else
            bif !x.snd.snd.snd.snd.snd.1 != (0 : Int) then
              some ((↑(List.length r2.snd.snd.1) : Int) == (0 : Int))
            else
              (tag_Unpack (x.snd.snd.snd.snd.snd.snd.1)).bind fun r4 =>
              bif r4.snd.2 != (0 : Int) then
                some (Bool.false)
              else
                bif (↑(List.length r2.snd.snd.1) : Int) != (1 : Int) then
                  some (Bool.false)
                else
                  bif Decidable.decide (x.snd.snd.snd.snd.snd.1 < (1 : Int)) then
                    some (Bool.false)
                  else
                    bif Decidable.decide ((3 : Int) < x.snd.snd.snd.snd.snd.1) then
                      some (Bool.false)
                    else
                      bif Decidable.decide (Go.RowKit.wrap64 (x.snd.snd.snd.snd.snd.1 - (1 : Int)) = (↑(nat_lit 2) : Int)) then
                        bif Decidable.decide ((↑(List.length x.snd.fst.snd.snd.fst.snd.snd.1) : Int) ≤ r4.1) then
                          some (Bool.false)
                        else
                          bif Decidable.decide ((0 : Int) < (↑(List.length r2.snd.snd.1) : Int)) then
                            bif Decidable.decide (Go.RowKit.wrap64 (x.snd.snd.snd.snd.snd.1 - (1 : Int)) = (↑(nat_lit 2) : Int)) then
                              bif (List.getD r2.snd.snd.fst (Int.toNat (0 : Int)) ((0 : Int), ((0 : Int), ((0 : Int), ((0 : Int), ((0 : Int), ((0 : Int), ((0 : Int), Bool.false)))))))).1 == x.snd.snd.1 then
                                bif (List.getD r2.snd.snd.fst (Int.toNat (0 : Int)) ((0 : Int), ((0 : Int), ((0 : Int), ((0 : Int), ((0 : Int), ((0 : Int), ((0 : Int), Bool.false)))))))).snd.1 == x.snd.snd.snd.snd.snd.1 then
                                  bif (List.getD r2.snd.snd.fst (Int.toNat (0 : Int)) ((0 : Int), ((0 : Int), ((0 : Int), ((0 : Int), ((0 : Int), ((0 : Int), ((0 : Int), Bool.false)))))))).snd.snd.1 == r4.1 then
                                    bif (List.getD r2.snd.snd.fst (Int.toNat (0 : Int)) ((0 : Int), ((0 : Int), ((0 : Int), ((0 : Int), ((0 : Int), ((0 : Int), ((0 : Int), Bool.false)))))))).snd.snd.snd.1 == x.snd.snd.snd.snd.snd.snd.snd.1 then
                                      bif (List.getD r2.snd.snd.fst (Int.toNat (0 : Int)) ((0 : Int), ((0 : Int), ((0 : Int), ((0 : Int), ((0 : Int), ((0 : Int), ((0 : Int), Bool.false)))))))).snd.snd.snd.snd.1 == r4.snd.1 then
                                        bif Decidable.decide ((0 : Int) ≤ r4.1) then
                                          bif Decidable.decide (r4.1 < (↑(List.length x.snd.fst.snd.snd.fst.snd.snd.1) : Int)) then
                                            bif (List.getD r2.snd.snd.fst (Int.toNat (0 : Int)) ((0 : Int), ((0 : Int), ((0 : Int), ((0 : Int), ((0 : Int), ((0 : Int), ((0 : Int), Bool.false)))))))).snd.snd.snd.snd.snd.1 == List.getD x.snd.fst.snd.snd.fst.snd.snd.1 (Int.toNat r4.1) (0 : Int) then
                                              bif Decidable.decide ((0 : Int) ≤ r4.1) then
                                                bif Decidable.decide (r4.1 < (↑(List.length x.snd.fst.snd.snd.fst.snd.snd.snd.1) : Int)) then
                                                  bif (List.getD r2.snd.snd.fst (Int.toNat (0 : Int)) ((0 : Int), ((0 : Int), ((0 : Int), ((0 : Int), ((0 : Int), ((0 : Int), ((0 : Int), Bool.false)))))))).snd.snd.snd.snd.snd.snd.1 == List.getD x.snd.fst.snd.snd.fst.snd.snd.snd.1 (Int.toNat r4.1) (0 : Int) then
                                                    some ((List.getD r2.snd.snd.fst (Int.toNat (0 : Int)) ((0 : Int), ((0 : Int), ((0 : Int), ((0 : Int), ((0 : Int), ((0 : Int), ((0 : Int), Bool.false)))))))).snd.snd.snd.snd.snd.snd.2 == (x.snd.snd.snd.1 == (4 : Int)))
                                                  else
                                                    some (Bool.false)
                                                else
                                                  none
                                              else
                                                none
                                            else
                                              some (Bool.false)
                                          else
                                            none
                                        else
                                          none
                                      else
                                        some (Bool.false)
                                    else
                                      some (Bool.false)
                                  else
                                    some (Bool.false)
                                else
                                  some (Bool.false)
                              else
                                some (Bool.false)
                            else
                              bif Decidable.decide (Go.RowKit.wrap64 (x.snd.snd.snd.snd.snd.1 - (1 : Int)) = (↑(nat_lit 1) : Int)) then
                                bif (List.getD r2.snd.snd.fst (Int.toNat (0 : Int)) ((0 : Int), ((0 : Int), ((0 : Int), ((0 : Int), ((0 : Int), ((0 : Int), ((0 : Int), Bool.false)))))))).1 == x.snd.snd.1 then
                                  bif (List.getD r2.snd.snd.fst (Int.toNat (0 : Int)) ((0 : Int), ((0 : Int), ((0 : Int), ((0 : Int), ((0 : Int), ((0 : Int), ((0 : Int), Bool.false)))))))).snd.1 == x.snd.snd.snd.snd.snd.1 then
                                    bif (List.getD r2.snd.snd.fst (Int.toNat (0 : Int)) ((0 : Int), ((0 : Int), ((0 : Int), ((0 : Int), ((0 : Int), ((0 : Int), ((0 : Int), Bool.false)))))))).snd.snd.1 == r4.1 then
                                      bif (List.getD r2.snd.snd.fst (Int.toNat (0 : Int)) ((0 : Int), ((0 : Int), ((0 : Int), ((0 : Int), ((0 : Int), ((0 : Int), ((0 : Int), Bool.false)))))))).snd.snd.snd.1 == x.snd.snd.snd.snd.snd.snd.snd.1 then
                                        bif (List.getD r2.snd.snd.fst (Int.toNat (0 : Int)) ((0 : Int), ((0 : Int), ((0 : Int), ((0 : Int), ((0 : Int), ((0 : Int), ((0 : Int), Bool.false)))))))).snd.snd.snd.snd.1 == r4.snd.1 then
                                          bif Decidable.decide ((0 : Int) ≤ r4.1) then
                                            bif Decidable.decide (r4.1 < (↑(List.length x.snd.fst.snd.snd.fst.snd.fst.1) : Int)) then
                                              bif (List.getD r2.snd.snd.fst (Int.toNat (0 : Int)) ((0 : Int), ((0 : Int), ((0 : Int), ((0 : Int), ((0 : Int), ((0 : Int), ((0 : Int), Bool.false)))))))).snd.snd.snd.snd.snd.1 == List.getD x.snd.fst.snd.snd.fst.snd.fst.1 (Int.toNat r4.1) (0 : Int) then
                                                bif Decidable.decide ((0 : Int) ≤ r4.1) then
                                                  bif Decidable.decide (r4.1 < (↑(List.length x.snd.fst.snd.snd.fst.snd.fst.snd.1) : Int)) then
                                                    bif (List.getD r2.snd.snd.fst (Int.toNat (0 : Int)) ((0 : Int), ((0 : Int), ((0 : Int), ((0 : Int), ((0 : Int), ((0 : Int), ((0 : Int), Bool.false)))))))).snd.snd.snd.snd.snd.snd.1 == List.getD x.snd.fst.snd.snd.fst.snd.fst.snd.1 (Int.toNat r4.1) (0 : Int) then
                                                      some ((List.getD r2.snd.snd.fst (Int.toNat (0 : Int)) ((0 : Int), ((0 : Int), ((0 : Int), ((0 : Int), ((0 : Int), ((0 : Int), ((0 : Int), Bool.false)))))))).snd.snd.snd.snd.snd.snd.2 == (x.snd.snd.snd.1 == (4 : Int)))
                                                    else
                                                      some (Bool.false)
                                                  else
                                                    none
                                                else
                                                  none
                                              else
                                                some (Bool.false)
                                            else
                                              none
                                          else
                                            none
                                        else
                                          some (Bool.false)
                                      else
                                        some (Bool.false)
                                    else
                                      some (Bool.false)
                                  else
                                    some (Bool.false)
                                else
                                  some (Bool.false)
                              else
                                bif Decidable.decide (Go.RowKit.wrap64 (x.snd.snd.snd.snd.snd.1 - (1 : Int)) = (↑(nat_lit 0) : Int)) then
                                  bif (List.getD r2.snd.snd.fst (Int.toNat (0 : Int)) ((0 : Int), ((0 : Int), ((0 : Int), ((0 : Int), ((0 : Int), ((0 : Int), ((0 : Int), Bool.false)))))))).1 == x.snd.snd.1 then
                                    bif (List.getD r2.snd.snd.fst (Int.toNat (0 : Int)) ((0 : Int), ((0 : Int), ((0 : Int), ((0 : Int), ((0 : Int), ((0 : Int), ((0 : Int), Bool.false)))))))).snd.1 == x.snd.snd.snd.snd.snd.1 then
                                      bif (List.getD r2.snd.snd.fst (Int.toNat (0 : Int)) ((0 : Int), ((0 : Int), ((0 : Int), ((0 : Int), ((0 : Int), ((0 : Int), ((0 : Int), Bool.false)))))))).snd.snd.1 == r4.1 then
                                        bif (List.getD r2.snd.snd.fst (Int.toNat (0 : Int)) ((0 : Int), ((0 : Int), ((0 : Int), ((0 : Int), ((0 : Int), ((0 : Int), ((0 : Int), Bool.false)))))))).snd.snd.snd.1 == x.snd.snd.snd.snd.snd.snd.snd.1 then
                                          bif (List.getD r2.snd.snd.fst (Int.toNat (0 : Int)) ((0 : Int), ((0 : Int), ((0 : Int), ((0 : Int), ((0 : Int), ((0 : Int), ((0 : Int), Bool.false)))))))).snd.snd.snd.snd.1 == r4.snd.1 then
                                            bif Decidable.decide ((0 : Int) ≤ r4.1) then
                                              bif Decidable.decide (r4.1 < (↑(List.length x.snd.fst.snd.snd.fst.fst.1) : Int)) then
                                                bif (List.getD r2.snd.snd.fst (Int.toNat (0 : Int)) ((0 : Int), ((0 : Int), ((0 : Int), ((0 : Int), ((0 : Int), ((0 : Int), ((0 : Int), Bool.false)))))))).snd.snd.snd.snd.snd.1 == List.getD x.snd.fst.snd.snd.fst.fst.1 (Int.toNat r4.1) (0 : Int) then
                                                  bif Decidable.decide ((0 : Int) ≤ r4.1) then
                                                    bif Decidable.decide (r4.1 < (↑(List.length x.snd.fst.snd.snd.fst.fst.snd.1) : Int)) then
                                                      bif (List.getD r2.snd.snd.fst (Int.toNat (0 : Int)) ((0 : Int), ((0 : Int), ((0 : Int), ((0 : Int), ((0 : Int), ((0 : Int), ((0 : Int), Bool.false)))))))).snd.snd.snd.snd.snd.snd.1 == List.getD x.snd.fst.snd.snd.fst.fst.snd.1 (Int.toNat r4.1) (0 : Int) then
                                                        some ((List.getD r2.snd.snd.fst (Int.toNat (0 : Int)) ((0 : Int), ((0 : Int), ((0 : Int), ((0 : Int), ((0 : Int), ((0 : Int), ((0 : Int), Bool.false)))))))).snd.snd.snd.snd.snd.snd.2 == (x.snd.snd.snd.1 == (4 : Int)))
                                                      else
                                                        some (Bool.false)
                                                    else
                                                      none
                                                  else
                                                    none
                                                else
                                                  some (Bool.false)
                                              else
                                                none
                                            else
                                              none
                                          else
                                            some (Bool.false)
                                        else
                                          some (Bool.false)
                                      else
                                        some (Bool.false)
                                    else
                                      some (Bool.false)
                                  else
                                    some (Bool.false)
                                else
                                  none
                          else
                            none
                      else
                        bif Decidable.decide (Go.RowKit.wrap64 (x.snd.snd.snd.snd.snd.1 - (1 : Int)) = (↑(nat_lit 1) : Int)) then
                          bif Decidable.decide ((↑(List.length x.snd.fst.snd.snd.fst.snd.fst.1) : Int) ≤ r4.1) then
                            some (Bool.false)
                          else
                            bif Decidable.decide ((0 : Int) < (↑(List.length r2.snd.snd.1) : Int)) then
                              bif Decidable.decide (Go.RowKit.wrap64 (x.snd.snd.snd.snd.snd.1 - (1 : Int)) = (↑(nat_lit 2) : Int)) then
                                bif (List.getD r2.snd.snd.fst (Int.toNat (0 : Int)) ((0 : Int), ((0 : Int), ((0 : Int), ((0 : Int), ((0 : Int), ((0 : Int), ((0 : Int), Bool.false)))))))).1 == x.snd.snd.1 then
                                  bif (List.getD r2.snd.snd.fst (Int.toNat (0 : Int)) ((0 : Int), ((0 : Int), ((0 : Int), ((0 : Int), ((0 : Int), ((0 : Int), ((0 : Int), Bool.false)))))))).snd.1 == x.snd.snd.snd.snd.snd.1 then
                                    bif (List.getD r2.snd.snd.fst (Int.toNat (0 : Int)) ((0 : Int), ((0 : Int), ((0 : Int), ((0 : Int), ((0 : Int), ((0 : Int), ((0 : Int), Bool.false)))))))).snd.snd.1 == r4.1 then
                                      bif (List.getD r2.snd.snd.fst (Int.toNat (0 : Int)) ((0 : Int), ((0 : Int), ((0 : Int), ((0 : Int), ((0 : Int), ((0 : Int), ((0 : Int), Bool.false)))))))).snd.snd.snd.1 == x.snd.snd.snd.snd.snd.snd.snd.1 then
                                        bif (List.getD r2.snd.snd.fst (Int.toNat (0 : Int)) ((0 : Int), ((0 : Int), ((0 : Int), ((0 : Int), ((0 : Int), ((0 : Int), ((0 : Int), Bool.false)))))))).snd.snd.snd.snd.1 == r4.snd.1 then
                                          bif Decidable.decide ((0 : Int) ≤ r4.1) then
                                            bif Decidable.decide (r4.1 < (↑(List.length x.snd.fst.snd.snd.fst.snd.snd.1) : Int)) then
                                              bif (List.getD r2.snd.snd.fst (Int.toNat (0 : Int)) ((0 : Int), ((0 : Int), ((0 : Int), ((0 : Int), ((0 : Int), ((0 : Int), ((0 : Int), Bool.false)))))))).snd.snd.snd.snd.snd.1 == List.getD x.snd.fst.snd.snd.fst.snd.snd.1 (Int.toNat r4.1) (0 : Int) then
                                                bif Decidable.decide ((0 : Int) ≤ r4.1) then
                                                  bif Decidable.decide (r4.1 < (↑(List.length x.snd.fst.snd.snd.fst.snd.snd.snd.1) : Int)) then
                                                    bif (List.getD r2.snd.snd.fst (Int.toNat (0 : Int)) ((0 : Int), ((0 : Int), ((0 : Int), ((0 : Int), ((0 : Int), ((0 : Int), ((0 : Int), Bool.false)))))))).snd.snd.snd.snd.snd.snd.1 == List.getD x.snd.fst.snd.snd.fst.snd.snd.snd.1 (Int.toNat r4.1) (0 : Int) then
                                                      some ((List.getD r2.snd.snd.fst (Int.toNat (0 : Int)) ((0 : Int), ((0 : Int), ((0 : Int), ((0 : Int), ((0 : Int), ((0 : Int), ((0 : Int), Bool.false)))))))).snd.snd.snd.snd.snd.snd.2 == (x.snd.snd.snd.1 == (4 : Int)))
                                                    else
                                                      some (Bool.false)
                                                  else
                                                    none
                                                else
                                                  none
                                              else
                                                some (Bool.false)
                                            else
                                              none
                                          else
                                            none
                                        else
                                          some (Bool.false)
                                      else
                                        some (Bool.false)
                                    else
                                      some (Bool.false)
                                  else
                                    some (Bool.false)
                                else
                                  some (Bool.false)
                              else
                                bif Decidable.decide (Go.RowKit.wrap64 (x.snd.snd.snd.snd.snd.1 - (1 : Int)) = (↑(nat_lit 1) : Int)) then
                                  bif (List.getD r2.snd.snd.fst (Int.toNat (0 : Int)) ((0 : Int), ((0 : Int), ((0 : Int), ((0 : Int), ((0 : Int), ((0 : Int), ((0 : Int), Bool.false)))))))).1 == x.snd.snd.1 then
                                    bif (List.getD r2.snd.snd.fst (Int.toNat (0 : Int)) ((0 : Int), ((0 : Int), ((0 : Int), ((0 : Int), ((0 : Int), ((0 : Int), ((0 : Int), Bool.false)))))))).snd.1 == x.snd.snd.snd.snd.snd.1 then
                                      bif (List.getD r2.snd.snd.fst (Int.toNat (0 : Int)) ((0 : Int), ((0 : Int), ((0 : Int), ((0 : Int), ((0 : Int), ((0 : Int), ((0 : Int), Bool.false)))))))).snd.snd.1 == r4.1 then
                                        bif (List.getD r2.snd.snd.fst (Int.toNat (0 : Int)) ((0 : Int), ((0 : Int), ((0 : Int), ((0 : Int), ((0 : Int), ((0 : Int), ((0 : Int), Bool.false)))))))).snd.snd.snd.1 == x.snd.snd.snd.snd.snd.snd.snd.1 then
                                          bif (List.getD r2.snd.snd.fst (Int.toNat (0 : Int)) ((0 : Int), ((0 : Int), ((0 : Int), ((0 : Int), ((0 : Int), ((0 : Int), ((0 : Int), Bool.false)))))))).snd.snd.snd.snd.1 == r4.snd.1 then
                                            bif Decidable.decide ((0 : Int) ≤ r4.1) then
                                              bif Decidable.decide (r4.1 < (↑(List.length x.snd.fst.snd.snd.fst.snd.fst.1) : Int)) then
                                                bif (List.getD r2.snd.snd.fst (Int.toNat (0 : Int)) ((0 : Int), ((0 : Int), ((0 : Int), ((0 : Int), ((0 : Int), ((0 : Int), ((0 : Int), Bool.false)))))))).snd.snd.snd.snd.snd.1 == List.getD x.snd.fst.snd.snd.fst.snd.fst.1 (Int.toNat r4.1) (0 : Int) then
                                                  bif Decidable.decide ((0 : Int) ≤ r4.1) then
                                                    bif Decidable.decide (r4.1 < (↑(List.length x.snd.fst.snd.snd.fst.snd.fst.snd.1) : Int)) then
                                                      bif (List.getD r2.snd.snd.fst (Int.toNat (0 : Int)) ((0 : Int), ((0 : Int), ((0 : Int), ((0 : Int), ((0 : Int), ((0 : Int), ((0 : Int), Bool.false)))))))).snd.snd.snd.snd.snd.snd.1 == List.getD x.snd.fst.snd.snd.fst.snd.fst.snd.1 (Int.toNat r4.1) (0 : Int) then
                                                        some ((List.getD r2.snd.snd.fst (Int.toNat (0 : Int)) ((0 : Int), ((0 : Int), ((0 : Int), ((0 : Int), ((0 : Int), ((0 : Int), ((0 : Int), Bool.false)))))))).snd.snd.snd.snd.snd.snd.2 == (x.snd.snd.snd.1 == (4 : Int)))
                                                      else
                                                        some (Bool.false)
                                                    else
                                                      none
                                                  else
                                                    none
                                                else
                                                  some (Bool.false)
                                              else
                                                none
                                            else
                                              none
                                          else
                                            some (Bool.false)
                                        else
                                          some (Bool.false)
                                      else
                                        some (Bool.false)
                                    else
                                      some (Bool.false)
                                  else
                                    some (Bool.false)
                                else
                                  bif Decidable.decide (Go.RowKit.wrap64 (x.snd.snd.snd.snd.snd.1 - (1 : Int)) = (↑(nat_lit 0) : Int)) then
                                    bif (List.getD r2.snd.snd.fst (Int.toNat (0 : Int)) ((0 : Int), ((0 : Int), ((0 : Int), ((0 : Int), ((0 : Int), ((0 : Int), ((0 : Int), Bool.false)))))))).1 == x.snd.snd.1 then
                                      bif (List.getD r2.snd.snd.fst (Int.toNat (0 : Int)) ((0 : Int), ((0 : Int), ((0 : Int), ((0 : Int), ((0 : Int), ((0 : Int), ((0 : Int), Bool.false)))))))).snd.1 == x.snd.snd.snd.snd.snd.1 then
                                        bif (List.getD r2.snd.snd.fst (Int.toNat (0 : Int)) ((0 : Int), ((0 : Int), ((0 : Int), ((0 : Int), ((0 : Int), ((0 : Int), ((0 : Int), Bool.false)))))))).snd.snd.1 == r4.1 then
                                          bif (List.getD r2.snd.snd.fst (Int.toNat (0 : Int)) ((0 : Int), ((0 : Int), ((0 : Int), ((0 : Int), ((0 : Int), ((0 : Int), ((0 : Int), Bool.false)))))))).snd.snd.snd.1 == x.snd.snd.snd.snd.snd.snd.snd.1 then
                                            bif (List.getD r2.snd.snd.fst (Int.toNat (0 : Int)) ((0 : Int), ((0 : Int), ((0 : Int), ((0 : Int), ((0 : Int), ((0 : Int), ((0 : Int), Bool.false)))))))).snd.snd.snd.snd.1 == r4.snd.1 then
                                              bif Decidable.decide ((0 : Int) ≤ r4.1) then
                                                bif Decidable.decide (r4.1 < (↑(List.length x.snd.fst.snd.snd.fst.fst.1) : Int)) then
                                                  bif (List.getD r2.snd.snd.fst (Int.toNat (0 : Int)) ((0 : Int), ((0 : Int), ((0 : Int), ((0 : Int), ((0 : Int), ((0 : Int), ((0 : Int), Bool.false)))))))).snd.snd.snd.snd.snd.1 == List.getD x.snd.fst.snd.snd.fst.fst.1 (Int.toNat r4.1) (0 : Int) then
                                                    bif Decidable.decide ((0 : Int) ≤ r4.1) then
                                                      bif Decidable.decide (r4.1 < (↑(List.length x.snd.fst.snd.snd.fst.fst.snd.1) : Int)) then
                                                        bif (List.getD r2.snd.snd.fst (Int.toNat (0 : Int)) ((0 : Int), ((0 : Int), ((0 : Int), ((0 : Int), ((0 : Int), ((0 : Int), ((0 : Int), Bool.false)))))))).snd.snd.snd.snd.snd.snd.1 == List.getD x.snd.fst.snd.snd.fst.fst.snd.1 (Int.toNat r4.1) (0 : Int) then
                                                          some ((List.getD r2.snd.snd.fst (Int.toNat (0 : Int)) ((0 : Int), ((0 : Int), ((0 : Int), ((0 : Int), ((0 : Int), ((0 : Int), ((0 : Int), Bool.false)))))))).snd.snd.snd.snd.snd.snd.2 == (x.snd.snd.snd.1 == (4 : Int)))
                                                        else
                                                          some (Bool.false)
                                                      else
                                                        none
                                                    else
                                                      none
                                                  else
                                                    some (Bool.false)
                                                else
                                                  none
                                              else
                                                none
                                            else
                                              some (Bool.false)
                                          else
                                            some (Bool.false)
                                        else
                                          some (Bool.false)
                                      else
                                        some (Bool.false)
                                    else
                                      some (Bool.false)
                                  else
                                    none
                            else
                              none
                        else
                          bif Decidable.decide (Go.RowKit.wrap64 (x.snd.snd.snd.snd.snd.1 - (1 : Int)) = (↑(nat_lit 0) : Int)) then
                            bif Decidable.decide ((↑(List.length x.snd.fst.snd.snd.fst.fst.1) : Int) ≤ r4.1) then
                              some (Bool.false)
                            else
                              bif Decidable.decide ((0 : Int) < (↑(List.length r2.snd.snd.1) : Int)) then
                                bif Decidable.decide (Go.RowKit.wrap64 (x.snd.snd.snd.snd.snd.1 - (1 : Int)) = (↑(nat_lit 2) : Int)) then
                                  bif (List.getD r2.snd.snd.fst (Int.toNat (0 : Int)) ((0 : Int), ((0 : Int), ((0 : Int), ((0 : Int), ((0 : Int), ((0 : Int), ((0 : Int), Bool.false)))))))).1 == x.snd.snd.1 then
                                    bif (List.getD r2.snd.snd.fst (Int.toNat (0 : Int)) ((0 : Int), ((0 : Int), ((0 : Int), ((0 : Int), ((0 : Int), ((0 : Int), ((0 : Int), Bool.false)))))))).snd.1 == x.snd.snd.snd.snd.snd.1 then
                                      bif (List.getD r2.snd.snd.fst (Int.toNat (0 : Int)) ((0 : Int), ((0 : Int), ((0 : Int), ((0 : Int), ((0 : Int), ((0 : Int), ((0 : Int), Bool.false)))))))).snd.snd.1 == r4.1 then
                                        bif (List.getD r2.snd.snd.fst (Int.toNat (0 : Int)) ((0 : Int), ((0 : Int), ((0 : Int), ((0 : Int), ((0 : Int), ((0 : Int), ((0 : Int), Bool.false)))))))).snd.snd.snd.1 == x.snd.snd.snd.snd.snd.snd.snd.1 then
                                          bif (List.getD r2.snd.snd.fst (Int.toNat (0 : Int)) ((0 : Int), ((0 : Int), ((0 : Int), ((0 : Int), ((0 : Int), ((0 : Int), ((0 : Int), Bool.false)))))))).snd.snd.snd.snd.1 == r4.snd.1 then
                                            bif Decidable.decide ((0 : Int) ≤ r4.1) then
                                              bif Decidable.decide (r4.1 < (↑(List.length x.snd.fst.snd.snd.fst.snd.snd.1) : Int)) then
                                                bif (List.getD r2.snd.snd.fst (Int.toNat (0 : Int)) ((0 : Int), ((0 : Int), ((0 : Int), ((0 : Int), ((0 : Int), ((0 : Int), ((0 : Int), Bool.false)))))))).snd.snd.snd.snd.snd.1 == List.getD x.snd.fst.snd.snd.fst.snd.snd.1 (Int.toNat r4.1) (0 : Int) then
                                                  bif Decidable.decide ((0 : Int) ≤ r4.1) then
                                                    bif Decidable.decide (r4.1 < (↑(List.length x.snd.fst.snd.snd.fst.snd.snd.snd.1) : Int)) then
                                                      bif (List.getD r2.snd.snd.fst (Int.toNat (0 : Int)) ((0 : Int), ((0 : Int), ((0 : Int), ((0 : Int), ((0 : Int), ((0 : Int), ((0 : Int), Bool.false)))))))).snd.snd.snd.snd.snd.snd.1 == List.getD x.snd.fst.snd.snd.fst.snd.snd.snd.1 (Int.toNat r4.1) (0 : Int) then
                                                        some ((List.getD r2.snd.snd.fst (Int.toNat (0 : Int)) ((0 : Int), ((0 : Int), ((0 : Int), ((0 : Int), ((0 : Int), ((0 : Int), ((0 : Int), Bool.false)))))))).snd.snd.snd.snd.snd.snd.2 == (x.snd.snd.snd.1 == (4 : Int)))
                                                      else
                                                        some (Bool.false)
                                                    else
                                                      none
                                                  else
                                                    none
                                                else
                                                  some (Bool.false)
                                              else
                                                none
                                            else
                                              none
                                          else
                                            some (Bool.false)
                                        else
                                          some (Bool.false)
                                      else
                                        some (Bool.false)
                                    else
                                      some (Bool.false)
                                  else
                                    some (Bool.false)
                                else
                                  bif Decidable.decide (Go.RowKit.wrap64 (x.snd.snd.snd.snd.snd.1 - (1 : Int)) = (↑(nat_lit 1) : Int)) then
                                    bif (List.getD r2.snd.snd.fst (Int.toNat (0 : Int)) ((0 : Int), ((0 : Int), ((0 : Int), ((0 : Int), ((0 : Int), ((0 : Int), ((0 : Int), Bool.false)))))))).1 == x.snd.snd.1 then
                                      bif (List.getD r2.snd.snd.fst (Int.toNat (0 : Int)) ((0 : Int), ((0 : Int), ((0 : Int), ((0 : Int), ((0 : Int), ((0 : Int), ((0 : Int), Bool.false)))))))).snd.1 == x.snd.snd.snd.snd.snd.1 then
                                        bif (List.getD r2.snd.snd.fst (Int.toNat (0 : Int)) ((0 : Int), ((0 : Int), ((0 : Int), ((0 : Int), ((0 : Int), ((0 : Int), ((0 : Int), Bool.false)))))))).snd.snd.1 == r4.1 then
                                          bif (List.getD r2.snd.snd.fst (Int.toNat (0 : Int)) ((0 : Int), ((0 : Int), ((0 : Int), ((0 : Int), ((0 : Int), ((0 : Int), ((0 : Int), Bool.false)))))))).snd.snd.snd.1 == x.snd.snd.snd.snd.snd.snd.snd.1 then
                                            bif (List.getD r2.snd.snd.fst (Int.toNat (0 : Int)) ((0 : Int), ((0 : Int), ((0 : Int), ((0 : Int), ((0 : Int), ((0 : Int), ((0 : Int), Bool.false)))))))).snd.snd.snd.snd.1 == r4.snd.1 then
                                              bif Decidable.decide ((0 : Int) ≤ r4.1) then
                                                bif Decidable.decide (r4.1 < (↑(List.length x.snd.fst.snd.snd.fst.snd.fst.1) : Int)) then
                                                  bif (List.getD r2.snd.snd.fst (Int.toNat (0 : Int)) ((0 : Int), ((0 : Int), ((0 : Int), ((0 : Int), ((0 : Int), ((0 : Int), ((0 : Int), Bool.false)))))))).snd.snd.snd.snd.snd.1 == List.getD x.snd.fst.snd.snd.fst.snd.fst.1 (Int.toNat r4.1) (0 : Int) then
                                                    bif Decidable.decide ((0 : Int) ≤ r4.1) then
                                                      bif Decidable.decide (r4.1 < (↑(List.length x.snd.fst.snd.snd.fst.snd.fst.snd.1) : Int)) then
                                                        bif (List.getD r2.snd.snd.fst (Int.toNat (0 : Int)) ((0 : Int), ((0 : Int), ((0 : Int), ((0 : Int), ((0 : Int), ((0 : Int), ((0 : Int), Bool.false)))))))).snd.snd.snd.snd.snd.snd.1 == List.getD x.snd.fst.snd.snd.fst.snd.fst.snd.1 (Int.toNat r4.1) (0 : Int) then
                                                          some ((List.getD r2.snd.snd.fst (Int.toNat (0 : Int)) ((0 : Int), ((0 : Int), ((0 : Int), ((0 : Int), ((0 : Int), ((0 : Int), ((0 : Int), Bool.false)))))))).snd.snd.snd.snd.snd.snd.2 == (x.snd.snd.snd.1 == (4 : Int)))
                                                        else
                                                          some (Bool.false)
                                                      else
                                                        none
                                                    else
                                                      none
                                                  else
                                                    some (Bool.false)
                                                else
                                                  none
                                              else
                                                none
                                            else
                                              some (Bool.false)
                                          else
                                            some (Bool.false)
                                        else
                                          some (Bool.false)
                                      else
                                        some (Bool.false)
                                    else
                                      some (Bool.false)
                                  else
                                    bif Decidable.decide (Go.RowKit.wrap64 (x.snd.snd.snd.snd.snd.1 - (1 : Int)) = (↑(nat_lit 0) : Int)) then
                                      bif (List.getD r2.snd.snd.fst (Int.toNat (0 : Int)) ((0 : Int), ((0 : Int), ((0 : Int), ((0 : Int), ((0 : Int), ((0 : Int), ((0 : Int), Bool.false)))))))).1 == x.snd.snd.1 then
                                        bif (List.getD r2.snd.snd.fst (Int.toNat (0 : Int)) ((0 : Int), ((0 : Int), ((0 : Int), ((0 : Int), ((0 : Int), ((0 : Int), ((0 : Int), Bool.false)))))))).snd.1 == x.snd.snd.snd.snd.snd.1 then
                                          bif (List.getD r2.snd.snd.fst (Int.toNat (0 : Int)) ((0 : Int), ((0 : Int), ((0 : Int), ((0 : Int), ((0 : Int), ((0 : Int), ((0 : Int), Bool.false)))))))).snd.snd.1 == r4.1 then
                                            bif (List.getD r2.snd.snd.fst (Int.toNat (0 : Int)) ((0 : Int), ((0 : Int), ((0 : Int), ((0 : Int), ((0 : Int), ((0 : Int), ((0 : Int), Bool.false)))))))).snd.snd.snd.1 == x.snd.snd.snd.snd.snd.snd.snd.1 then
                                              bif (List.getD r2.snd.snd.fst (Int.toNat (0 : Int)) ((0 : Int), ((0 : Int), ((0 : Int), ((0 : Int), ((0 : Int), ((0 : Int), ((0 : Int), Bool.false)))))))).snd.snd.snd.snd.1 == r4.snd.1 then
                                                bif Decidable.decide ((0 : Int) ≤ r4.1) then
                                                  bif Decidable.decide (r4.1 < (↑(List.length x.snd.fst.snd.snd.fst.fst.1) : Int)) then
                                                    bif (List.getD r2.snd.snd.fst (Int.toNat (0 : Int)) ((0 : Int), ((0 : Int), ((0 : Int), ((0 : Int), ((0 : Int), ((0 : Int), ((0 : Int), Bool.false)))))))).snd.snd.snd.snd.snd.1 == List.getD x.snd.fst.snd.snd.fst.fst.1 (Int.toNat r4.1) (0 : Int) then
                                                      bif Decidable.decide ((0 : Int) ≤ r4.1) then
                                                        bif Decidable.decide (r4.1 < (↑(List.length x.snd.fst.snd.snd.fst.fst.snd.1) : Int)) then
                                                          bif (List.getD r2.snd.snd.fst (Int.toNat (0 : Int)) ((0 : Int), ((0 : Int), ((0 : Int), ((0 : Int), ((0 : Int), ((0 : Int), ((0 : Int), Bool.false)))))))).snd.snd.snd.snd.snd.snd.1 == List.getD x.snd.fst.snd.snd.fst.fst.snd.1 (Int.toNat r4.1) (0 : Int) then
                                                            some ((List.getD r2.snd.snd.fst (Int.toNat (0 : Int)) ((0 : Int), ((0 : Int), ((0 : Int), ((0 : Int), ((0 : Int), ((0 : Int), ((0 : Int), Bool.false)))))))).snd.snd.snd.snd.snd.snd.2 == (x.snd.snd.snd.1 == (4 : Int)))
                                                          else
                                                            some (Bool.false)
                                                        else
                                                          none
                                                      else
                                                        none
                                                    else
                                                      some (Bool.false)
                                                  else
                                                    none
                                                else
                                                  none
                                              else
                                                some (Bool.false)
                                            else
                                              some (Bool.false)
                                          else
                                            some (Bool.false)
                                        else
                                          some (Bool.false)
                                      else
                                        some (Bool.false)
                                    else
                                      none
                              else
                                none
                          else
                            none
        else
          bif r2.snd.snd.2 != (0 : Int) then
            some ((↑(List.length r2.snd.snd.1) : Int) == (0 : Int))
          else
            some ((↑(List.length r2.snd.snd.1) : Int) == (0 : Int))
def tendrillaw16_AskTouches_S : Sig := ⟨[⟨true, (.pair .int (.pair .int (.pair .int (.pair .int .int))))⟩, ⟨true, (.pair (.sl .int) (.pair (.sl .int) (.pair (.pair (.pair (.sl .int) (.pair (.sl .int) (.pair (.sl .int) (.sl .int)))) (.pair (.pair (.sl .int) (.pair (.sl .int) (.pair (.sl .int) (.sl .int)))) (.pair (.sl .int) (.pair (.sl .int) (.pair (.sl .int) (.sl .int)))))) (.pair .int (.sl .int)))))⟩, ⟨false, .int⟩, ⟨true, (.pair .int (.pair .int (.pair .int (.pair .int (.pair .int .int)))))⟩], [⟨false, .bool⟩], false, tendrillaw16_AskTouches⟩
end Go.Proofs.YtcoiboghdmmdcadFn
