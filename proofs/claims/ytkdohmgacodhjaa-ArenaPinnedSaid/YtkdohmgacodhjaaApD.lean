/- What 'ArenaPinned' computes for each number of threads, as plain functions; no condition. -/
import Derived.Test.YtkdohmgacodhjaaProg
import Derived.KernelRfl
import Derived.Test.YtkdohmgacodhjaaPx25
import Derived.Test.YtkdohmgacodhjaaFnsD
set_option linter.unusedVariables false
set_option linter.unusedSimpArgs false
namespace Go.Proofs.YtkdohmgacodhjaaFn
open Go Go.RowKit Go.Proofs.YtkdohmgacodhjaaPx
/-! tendril/tendrillaw07.ArenaPinned -/
mutual
def tendrillaw07_ArenaPinned_1_L26 : Nat → (Int) → (List Int) → (Int) → (Int) → (List Int) → (List Int) → (List Int) → (List Int) → (List Int) → (List Int) → (List Int) → (List Int) → (List Int) → (List Int) → (List Int) → (List Int) → (List Int) → (List Int) → (Int) → (List Int) → (List Bool) → (List (Int × Int)) → (List (Int × Int)) → Option (Bool)
  | 0, _, _, _, _, _, _, _, _, _, _, _, _, _, _, _, _, _, _, _, _, _, _, _ => none
  | k + 1, p0, p1, p2, p3, p4, p5, p6, p7, p8, p9, p10, p11, p12, p13, p14, p15, p16, p17, p18, p19, p20, p21, p22 =>
    bif Decidable.decide (p3 < p2) then
      bif Decidable.decide ((0 : Int) ≤ p3) then
        bif Decidable.decide (p3 < (↑p1.length : Int)) then
          bif Decidable.decide (p1.getD p3.toNat (0 : Int) < (0 : Int)) then
            some (Bool.true)
          else
            bif Decidable.decide (p0 = (0 : Int)) then
              none
            else
              bif (p1.getD p3.toNat (0 : Int)).tmod (6 : Int) == (0 : Int) then
                (arena_Pin (((p4, p5, ((p6, p7, p8, p9), (p10, p11, p12, p13), p14, p15, p16, p17), p18, p19), (Go.RowKit.wrap64 ((p1.getD p3.toNat (0 : Int)).tdiv (6 : Int))).tmod p0))).bind fun r2 =>
                bif r2.2 == (0 : Int) then
                  bif Decidable.decide ((0 : Int) ≤ (Go.RowKit.wrap64 ((p1.getD p3.toNat (0 : Int)).tdiv (6 : Int))).tmod p0) then
                    bif Decidable.decide ((Go.RowKit.wrap64 ((p1.getD p3.toNat (0 : Int)).tdiv (6 : Int))).tmod p0 < (↑p20.length : Int)) then
                      bif Decidable.decide ((Go.RowKit.wrap64 ((p1.getD p3.toNat (0 : Int)).tdiv (6 : Int))).tmod p0 = (↑(nat_lit 0) : Int)) then
                        tendrillaw07_ArenaPinned_1_L26 k (p0) (p1) (p2) (Go.RowKit.wrap64 (p3 + (1 : Int))) (r2.fst.1) (r2.fst.snd.1) (r2.fst.snd.snd.fst.fst.1) (r2.fst.snd.snd.fst.fst.snd.1) (r2.fst.snd.snd.fst.fst.snd.snd.1) (r2.fst.snd.snd.fst.fst.snd.snd.2) (r2.fst.snd.snd.fst.snd.fst.1) (r2.fst.snd.snd.fst.snd.fst.snd.1) (r2.fst.snd.snd.fst.snd.fst.snd.snd.1) (r2.fst.snd.snd.fst.snd.fst.snd.snd.2) (r2.fst.snd.snd.fst.snd.snd.1) (r2.fst.snd.snd.fst.snd.snd.snd.1) (r2.fst.snd.snd.fst.snd.snd.snd.snd.1) (r2.fst.snd.snd.fst.snd.snd.snd.snd.2) (r2.fst.snd.snd.snd.1) (r2.fst.snd.snd.snd.2) (p20.set ((Go.RowKit.wrap64 ((p1.getD p3.toNat (0 : Int)).tdiv (6 : Int))).tmod p0).toNat Bool.true) (p21) ([])
                      else
                        none
                    else
                      none
                  else
                    none
                else
                  tendrillaw07_ArenaPinned_1_L26 k (p0) (p1) (p2) (Go.RowKit.wrap64 (p3 + (1 : Int))) (p4) (p5) (p6) (p7) (p8) (p9) (p10) (p11) (p12) (p13) (p14) (p15) (p16) (p17) (p18) (p19) (p20) (p21) (p22)
              else
                bif (p1.getD p3.toNat (0 : Int)).tmod (6 : Int) == (1 : Int) then
                  (arena_End (((p4, p5, ((p6, p7, p8, p9), (p10, p11, p12, p13), p14, p15, p16, p17), p18, p19), (Go.RowKit.wrap64 ((p1.getD p3.toNat (0 : Int)).tdiv (6 : Int))).tmod p0))).bind fun r3 =>
                  bif r3.2 == (0 : Int) then
                    bif Decidable.decide ((0 : Int) ≤ (Go.RowKit.wrap64 ((p1.getD p3.toNat (0 : Int)).tdiv (6 : Int))).tmod p0) then
                      bif Decidable.decide ((Go.RowKit.wrap64 ((p1.getD p3.toNat (0 : Int)).tdiv (6 : Int))).tmod p0 < (↑p20.length : Int)) then
                        tendrillaw07_ArenaPinned_1_L26 k (p0) (p1) (p2) (Go.RowKit.wrap64 (p3 + (1 : Int))) (r3.fst.1) (r3.fst.snd.1) (r3.fst.snd.snd.fst.fst.1) (r3.fst.snd.snd.fst.fst.snd.1) (r3.fst.snd.snd.fst.fst.snd.snd.1) (r3.fst.snd.snd.fst.fst.snd.snd.2) (r3.fst.snd.snd.fst.snd.fst.1) (r3.fst.snd.snd.fst.snd.fst.snd.1) (r3.fst.snd.snd.fst.snd.fst.snd.snd.1) (r3.fst.snd.snd.fst.snd.fst.snd.snd.2) (r3.fst.snd.snd.fst.snd.snd.1) (r3.fst.snd.snd.fst.snd.snd.snd.1) (r3.fst.snd.snd.fst.snd.snd.snd.snd.1) (r3.fst.snd.snd.fst.snd.snd.snd.snd.2) (r3.fst.snd.snd.snd.1) (r3.fst.snd.snd.snd.2) (p20.set ((Go.RowKit.wrap64 ((p1.getD p3.toNat (0 : Int)).tdiv (6 : Int))).tmod p0).toNat Bool.false) (p21) (p22)
                      else
                        none
                    else
                      none
                  else
                    tendrillaw07_ArenaPinned_1_L26 k (p0) (p1) (p2) (Go.RowKit.wrap64 (p3 + (1 : Int))) (p4) (p5) (p6) (p7) (p8) (p9) (p10) (p11) (p12) (p13) (p14) (p15) (p16) (p17) (p18) (p19) (p20) (p21) (p22)
                else
                  bif (p1.getD p3.toNat (0 : Int)).tmod (6 : Int) == (2 : Int) then
                    (arena_Turn ((p4, p5, ((p6, p7, p8, p9), (p10, p11, p12, p13), p14, p15, p16, p17), p18, p19))).bind fun r4 =>
                    tendrillaw07_ArenaPinned_1_L26 k (p0) (p1) (p2) (Go.RowKit.wrap64 (p3 + (1 : Int))) (r4.fst.1) (r4.fst.snd.1) (r4.fst.snd.snd.fst.fst.1) (r4.fst.snd.snd.fst.fst.snd.1) (r4.fst.snd.snd.fst.fst.snd.snd.1) (r4.fst.snd.snd.fst.fst.snd.snd.2) (r4.fst.snd.snd.fst.snd.fst.1) (r4.fst.snd.snd.fst.snd.fst.snd.1) (r4.fst.snd.snd.fst.snd.fst.snd.snd.1) (r4.fst.snd.snd.fst.snd.fst.snd.snd.2) (r4.fst.snd.snd.fst.snd.snd.1) (r4.fst.snd.snd.fst.snd.snd.snd.1) (r4.fst.snd.snd.fst.snd.snd.snd.snd.1) (r4.fst.snd.snd.fst.snd.snd.snd.snd.2) (r4.fst.snd.snd.snd.1) (r4.fst.snd.snd.snd.2) (p20) (p21) (p22)
                  else
                    bif (p1.getD p3.toNat (0 : Int)).tmod (6 : Int) == (3 : Int) then
                      (arena_Take (((p4, p5, ((p6, p7, p8, p9), (p10, p11, p12, p13), p14, p15, p16, p17), p18, p19), Go.RowKit.wrap64 ((Go.RowKit.wrap64 ((p1.getD p3.toNat (0 : Int)).tdiv (6 : Int))).tmod (3 : Int) + (1 : Int))))).bind fun r5 =>
                      bif r5.snd.2 != (0 : Int) then
                        tendrillaw07_ArenaPinned_1_L26 k (p0) (p1) (p2) (Go.RowKit.wrap64 (p3 + (1 : Int))) (p4) (p5) (p6) (p7) (p8) (p9) (p10) (p11) (p12) (p13) (p14) (p15) (p16) (p17) (p18) (p19) (p20) (p21) (p22)
                      else
                        (tag_Unpack (r5.snd.1)).bind fun r6 =>
                        bif r6.snd.2 != (0 : Int) then
                          some (Bool.false)
                        else
                          tendrillaw07_ArenaPinned_1_L116 k (p0) (Go.RowKit.wrap64 ((Go.RowKit.wrap64 ((p1.getD p3.toNat (0 : Int)).tdiv (6 : Int))).tmod (3 : Int) + (1 : Int))) (r5.snd.1) (r6.1) (p1) (p2) (p3) ((↑(1 : Nat) : Int)) ((0 : Int)) (r5.fst.1) (r5.fst.snd.1) (r5.fst.snd.snd.fst.fst.1) (r5.fst.snd.snd.fst.fst.snd.1) (r5.fst.snd.snd.fst.fst.snd.snd.1) (r5.fst.snd.snd.fst.fst.snd.snd.2) (r5.fst.snd.snd.fst.snd.fst.1) (r5.fst.snd.snd.fst.snd.fst.snd.1) (r5.fst.snd.snd.fst.snd.fst.snd.snd.1) (r5.fst.snd.snd.fst.snd.fst.snd.snd.2) (r5.fst.snd.snd.fst.snd.snd.1) (r5.fst.snd.snd.fst.snd.snd.snd.1) (r5.fst.snd.snd.fst.snd.snd.snd.snd.1) (r5.fst.snd.snd.fst.snd.snd.snd.snd.2) (r5.fst.snd.snd.snd.1) (r5.fst.snd.snd.snd.2) (p20) (p21) (p22)
                    else
                      bif (p1.getD p3.toNat (0 : Int)).tmod (6 : Int) == (4 : Int) then
                        (arena_Take (((p4, p5, ((p6, p7, p8, p9), (p10, p11, p12, p13), p14, p15, p16, p17), p18, p19), Go.RowKit.wrap64 ((Go.RowKit.wrap64 ((p1.getD p3.toNat (0 : Int)).tdiv (6 : Int))).tmod (3 : Int) + (1 : Int))))).bind fun r7 =>
                        bif r7.snd.2 != (0 : Int) then
                          tendrillaw07_ArenaPinned_1_L26 k (p0) (p1) (p2) (Go.RowKit.wrap64 (p3 + (1 : Int))) (p4) (p5) (p6) (p7) (p8) (p9) (p10) (p11) (p12) (p13) (p14) (p15) (p16) (p17) (p18) (p19) (p20) (p21) (p22)
                        else
                          (tag_Unpack (r7.snd.1)).bind fun r8 =>
                          bif r8.snd.2 != (0 : Int) then
                            some (Bool.false)
                          else
                            tendrillaw07_ArenaPinned_1_L116 k (p0) (Go.RowKit.wrap64 ((Go.RowKit.wrap64 ((p1.getD p3.toNat (0 : Int)).tdiv (6 : Int))).tmod (3 : Int) + (1 : Int))) (r7.snd.1) (r8.1) (p1) (p2) (p3) ((↑(1 : Nat) : Int)) ((0 : Int)) (r7.fst.1) (r7.fst.snd.1) (r7.fst.snd.snd.fst.fst.1) (r7.fst.snd.snd.fst.fst.snd.1) (r7.fst.snd.snd.fst.fst.snd.snd.1) (r7.fst.snd.snd.fst.fst.snd.snd.2) (r7.fst.snd.snd.fst.snd.fst.1) (r7.fst.snd.snd.fst.snd.fst.snd.1) (r7.fst.snd.snd.fst.snd.fst.snd.snd.1) (r7.fst.snd.snd.fst.snd.fst.snd.snd.2) (r7.fst.snd.snd.fst.snd.snd.1) (r7.fst.snd.snd.fst.snd.snd.snd.1) (r7.fst.snd.snd.fst.snd.snd.snd.snd.1) (r7.fst.snd.snd.fst.snd.snd.snd.snd.2) (r7.fst.snd.snd.snd.1) (r7.fst.snd.snd.snd.2) (p20) (p21) (p22)
                      else
                        bif (↑p21.length : Int) == (0 : Int) then
                          tendrillaw07_ArenaPinned_1_L26 k (p0) (p1) (p2) (Go.RowKit.wrap64 (p3 + (1 : Int))) (p4) (p5) (p6) (p7) (p8) (p9) (p10) (p11) (p12) (p13) (p14) (p15) (p16) (p17) (p18) (p19) (p20) (p21) (p22)
                        else
                          bif Decidable.decide ((↑p21.length : Int) = (0 : Int)) then
                            none
                          else
                            bif Decidable.decide ((0 : Int) ≤ (Go.RowKit.wrap64 ((p1.getD p3.toNat (0 : Int)).tdiv (6 : Int))).tmod (↑p21.length : Int)) then
                              bif Decidable.decide ((Go.RowKit.wrap64 ((p1.getD p3.toNat (0 : Int)).tdiv (6 : Int))).tmod (↑p21.length : Int) < (↑p21.length : Int)) then
                                bif Decidable.decide ((↑(0 : Nat) : Int) ≤ (Go.RowKit.wrap64 ((p1.getD p3.toNat (0 : Int)).tdiv (6 : Int))).tmod (↑p21.length : Int)) then
                                  bif Decidable.decide ((Go.RowKit.wrap64 ((p1.getD p3.toNat (0 : Int)).tdiv (6 : Int))).tmod (↑p21.length : Int) ≤ (↑p21.length : Int)) then
                                    bif Decidable.decide ((0 : Nat) + (List.drop (0 : Nat) (List.take ((Go.RowKit.wrap64 ((p1.getD p3.toNat (0 : Int)).tdiv (6 : Int))).tmod (↑p21.length : Int)).toNat p21)).length ≤ (1000000 : Nat)) then
                                      bif Decidable.decide ((↑(0 : Nat) : Int) ≤ Go.RowKit.wrap64 ((Go.RowKit.wrap64 ((p1.getD p3.toNat (0 : Int)).tdiv (6 : Int))).tmod (↑p21.length : Int) + (1 : Int))) then
                                        bif Decidable.decide (Go.RowKit.wrap64 ((Go.RowKit.wrap64 ((p1.getD p3.toNat (0 : Int)).tdiv (6 : Int))).tmod (↑p21.length : Int) + (1 : Int)) ≤ (↑p21.length : Int)) then
                                          bif Decidable.decide ((List.drop (0 : Nat) (List.take ((Go.RowKit.wrap64 ((p1.getD p3.toNat (0 : Int)).tdiv (6 : Int))).tmod (↑p21.length : Int)).toNat p21)).length + (List.drop (Go.RowKit.wrap64 ((Go.RowKit.wrap64 ((p1.getD p3.toNat (0 : Int)).tdiv (6 : Int))).tmod (↑p21.length : Int) + (1 : Int))).toNat (List.take p21.length p21)).length ≤ (1000000 : Nat)) then
                                            (arena_Retire (((p4, p5, ((p6, p7, p8, p9), (p10, p11, p12, p13), p14, p15, p16, p17), p18, p19), (p21.getD ((Go.RowKit.wrap64 (Int.tdiv (p1.getD p3.toNat (0 : Int)) (6 : Int))).tmod ((↑p21.length : Int) : Int)).toNat ((0 : Int), (0 : Int))).1, (p21.getD ((Go.RowKit.wrap64 (Int.tdiv (p1.getD p3.toNat (0 : Int)) (6 : Int))).tmod ((↑p21.length : Int) : Int)).toNat ((0 : Int), (0 : Int))).2))).bind fun r9 =>
                                            (tag_Unpack ((p21.getD ((Go.RowKit.wrap64 (Int.tdiv (p1.getD p3.toNat (0 : Int)) (6 : Int))).tmod ((↑p21.length : Int) : Int)).toNat ((0 : Int), (0 : Int))).2)).bind fun r10 =>
                                            bif r9.2 != (0 : Int) then
                                              some (Bool.false)
                                            else
                                              bif r10.snd.2 != (0 : Int) then
                                                some (Bool.false)
                                              else
                                                tendrillaw07_ArenaPinned_1_L62 k (p0) (r10.1) (p1) (p2) (p3) ((↑(1 : Nat) : Int)) ((0 : Int)) (r9.fst.1) (r9.fst.snd.1) (r9.fst.snd.snd.fst.fst.1) (r9.fst.snd.snd.fst.fst.snd.1) (r9.fst.snd.snd.fst.fst.snd.snd.1) (r9.fst.snd.snd.fst.fst.snd.snd.2) (r9.fst.snd.snd.fst.snd.fst.1) (r9.fst.snd.snd.fst.snd.fst.snd.1) (r9.fst.snd.snd.fst.snd.fst.snd.snd.1) (r9.fst.snd.snd.fst.snd.fst.snd.snd.2) (r9.fst.snd.snd.fst.snd.snd.1) (r9.fst.snd.snd.fst.snd.snd.snd.1) (r9.fst.snd.snd.fst.snd.snd.snd.snd.1) (r9.fst.snd.snd.fst.snd.snd.snd.snd.2) (r9.fst.snd.snd.snd.1) (r9.fst.snd.snd.snd.2) (p20) (List.drop (0 : Nat) (List.take ((Go.RowKit.wrap64 ((p1.getD p3.toNat (0 : Int)).tdiv (6 : Int))).tmod (↑p21.length : Int)).toNat p21) ++ List.drop (Go.RowKit.wrap64 ((Go.RowKit.wrap64 ((p1.getD p3.toNat (0 : Int)).tdiv (6 : Int))).tmod (↑p21.length : Int) + (1 : Int))).toNat (List.take p21.length p21)) ((p21.getD ((Go.RowKit.wrap64 (Int.tdiv (p1.getD p3.toNat (0 : Int)) (6 : Int))).tmod ((↑p21.length : Int) : Int)).toNat ((0 : Int), (0 : Int))).1) ((p21.getD ((Go.RowKit.wrap64 (Int.tdiv (p1.getD p3.toNat (0 : Int)) (6 : Int))).tmod ((↑p21.length : Int) : Int)).toNat ((0 : Int), (0 : Int))).2) (p22)
                                          else
                                            none
                                        else
                                          none
                                      else
                                        none
                                    else
                                      none
                                  else
                                    none
                                else
                                  none
                              else
                                none
                            else
                              none
        else
          none
      else
        none
    else
      (arena_Check ((p4, p5, ((p6, p7, p8, p9), (p10, p11, p12, p13), p14, p15, p16, p17), p18, p19))).bind fun r11 =>
      some (r11 == (0 : Int))
def tendrillaw07_ArenaPinned_1_L116 : Nat → (Int) → (Int) → (Int) → (Int) → (List Int) → (Int) → (Int) → (Int) → (Int) → (List Int) → (List Int) → (List Int) → (List Int) → (List Int) → (List Int) → (List Int) → (List Int) → (List Int) → (List Int) → (List Int) → (List Int) → (List Int) → (List Int) → (Int) → (List Int) → (List Bool) → (List (Int × Int)) → (List (Int × Int)) → Option (Bool)
  | 0, _, _, _, _, _, _, _, _, _, _, _, _, _, _, _, _, _, _, _, _, _, _, _, _, _, _, _, _ => none
  | k + 1, p0, p1, p2, p3, p4, p5, p6, p7, p8, p9, p10, p11, p12, p13, p14, p15, p16, p17, p18, p19, p20, p21, p22, p23, p24, p25, p26, p27 =>
    bif Decidable.decide (p8 < p7) then
      bif Decidable.decide (p8 = (↑(nat_lit 0) : Int)) then
        tendrillaw07_ArenaPinned_1_L122 k (p0) (p1) (p2) (p3) (p8) (p4) (p5) (p6) (p7) (p8) ((↑p27.length : Int)) ((0 : Int)) (p9) (p10) (p11) (p12) (p13) (p14) (p15) (p16) (p17) (p18) (p19) (p20) (p21) (p22) (p23) (p24) (p25) (p26) (p27)
      else
        none
    else
      bif Decidable.decide (p26.length + [(p1, p2)].length ≤ (1000000 : Nat)) then
        tendrillaw07_ArenaPinned_1_L26 k (p0) (p4) (p5) (Go.RowKit.wrap64 (p6 + (1 : Int))) (p9) (p10) (p11) (p12) (p13) (p14) (p15) (p16) (p17) (p18) (p19) (p20) (p21) (p22) (p23) (p24) (p25) (p26 ++ [(p1, p2)]) (p27)
      else
        none
def tendrillaw07_ArenaPinned_1_L62 : Nat → (Int) → (Int) → (List Int) → (Int) → (Int) → (Int) → (Int) → (List Int) → (List Int) → (List Int) → (List Int) → (List Int) → (List Int) → (List Int) → (List Int) → (List Int) → (List Int) → (List Int) → (List Int) → (List Int) → (List Int) → (Int) → (List Int) → (List Bool) → (List (Int × Int)) → (Int) → (Int) → (List (Int × Int)) → Option (Bool)
  | 0, _, _, _, _, _, _, _, _, _, _, _, _, _, _, _, _, _, _, _, _, _, _, _, _, _, _, _, _ => none
  | k + 1, p0, p1, p2, p3, p4, p5, p6, p7, p8, p9, p10, p11, p12, p13, p14, p15, p16, p17, p18, p19, p20, p21, p22, p23, p24, p25, p26, p27 =>
    bif Decidable.decide (p6 < p5) then
      bif Decidable.decide ((0 : Int) ≤ p6) then
        bif Decidable.decide (p6 < (↑p23.length : Int)) then
          bif p23.getD p6.toNat Bool.false then
            bif Decidable.decide (p6 = (↑(nat_lit 0) : Int)) then
              bif Decidable.decide (p27.length + [(p25, p1)].length ≤ (1000000 : Nat)) then
                bif Decidable.decide (p6 = (↑(nat_lit 0) : Int)) then
                  tendrillaw07_ArenaPinned_1_L62 k (p0) (p1) (p2) (p3) (p4) (p5) (Go.RowKit.wrap64 (p6 + (1 : Int))) (p7) (p8) (p9) (p10) (p11) (p12) (p13) (p14) (p15) (p16) (p17) (p18) (p19) (p20) (p21) (p22) (p23) (p24) (p25) (p26) (p27 ++ [(p25, p1)])
                else
                  none
              else
                none
            else
              none
          else
            tendrillaw07_ArenaPinned_1_L62 k (p0) (p1) (p2) (p3) (p4) (p5) (Go.RowKit.wrap64 (p6 + (1 : Int))) (p7) (p8) (p9) (p10) (p11) (p12) (p13) (p14) (p15) (p16) (p17) (p18) (p19) (p20) (p21) (p22) (p23) (p24) (p25) (p26) (p27)
        else
          none
      else
        none
    else
      tendrillaw07_ArenaPinned_1_L26 k (p0) (p2) (p3) (Go.RowKit.wrap64 (p4 + (1 : Int))) (p7) (p8) (p9) (p10) (p11) (p12) (p13) (p14) (p15) (p16) (p17) (p18) (p19) (p20) (p21) (p22) (p23) (p24) (p27)
def tendrillaw07_ArenaPinned_1_L122 : Nat → (Int) → (Int) → (Int) → (Int) → (Int) → (List Int) → (Int) → (Int) → (Int) → (Int) → (Int) → (Int) → (List Int) → (List Int) → (List Int) → (List Int) → (List Int) → (List Int) → (List Int) → (List Int) → (List Int) → (List Int) → (List Int) → (List Int) → (List Int) → (List Int) → (Int) → (List Int) → (List Bool) → (List (Int × Int)) → (List (Int × Int)) → Option (Bool)
  | 0, _, _, _, _, _, _, _, _, _, _, _, _, _, _, _, _, _, _, _, _, _, _, _, _, _, _, _, _, _, _, _ => none
  | k + 1, p0, p1, p2, p3, p4, p5, p6, p7, p8, p9, p10, p11, p12, p13, p14, p15, p16, p17, p18, p19, p20, p21, p22, p23, p24, p25, p26, p27, p28, p29, p30 =>
    bif Decidable.decide (p11 < p10) then
      bif Decidable.decide ((0 : Int) ≤ p11) then
        bif Decidable.decide (p11 < (↑p30.length : Int)) then
          bif Decidable.decide ((0 : Int) ≤ p4) then
            bif Decidable.decide (p4 < (↑p28.length : Int)) then
              bif p28.getD p4.toNat Bool.false then
                bif (p30.getD p11.toNat ((0 : Int), (0 : Int))).1 == p1 && ((p30.getD p11.toNat ((0 : Int), (0 : Int))).2 == p3 && Bool.true) then
                  some (Bool.false)
                else
                  tendrillaw07_ArenaPinned_1_L122 k (p0) (p1) (p2) (p3) (p4) (p5) (p6) (p7) (p8) (p9) (p10) (Go.RowKit.wrap64 (p11 + (1 : Int))) (p12) (p13) (p14) (p15) (p16) (p17) (p18) (p19) (p20) (p21) (p22) (p23) (p24) (p25) (p26) (p27) (p28) (p29) (p30)
              else
                tendrillaw07_ArenaPinned_1_L122 k (p0) (p1) (p2) (p3) (p4) (p5) (p6) (p7) (p8) (p9) (p10) (Go.RowKit.wrap64 (p11 + (1 : Int))) (p12) (p13) (p14) (p15) (p16) (p17) (p18) (p19) (p20) (p21) (p22) (p23) (p24) (p25) (p26) (p27) (p28) (p29) (p30)
            else
              none
          else
            none
        else
          none
      else
        none
    else
      tendrillaw07_ArenaPinned_1_L116 k (p0) (p1) (p2) (p3) (p5) (p6) (p7) (p8) (Go.RowKit.wrap64 (p9 + (1 : Int))) (p12) (p13) (p14) (p15) (p16) (p17) (p18) (p19) (p20) (p21) (p22) (p23) (p24) (p25) (p26) (p27) (p28) (p29) (p30)
end
def tendrillaw07_ArenaPinned_1_K (K : Nat) (x : (Int × Int × Int × Int × Int) × List Int) : Option (Bool) :=
  (tendrillaw07_live (())).bind fun r0 =>
  bif !r0 then
    some (Bool.false)
  else
    bif Decidable.decide ((120 : Int) < (↑(List.length x.2) : Int)) then
      some (Bool.true)
    else
      (arena_New (((x.fst.1, x.fst.snd.1, x.fst.snd.snd.1, x.fst.snd.snd.snd.1, x.fst.snd.snd.snd.2), (1 : Int)))).bind fun r1 =>
      bif r1.2 != (0 : Int) then
        some ((↑(List.length r1.fst.snd.snd.snd.2) : Int) == (0 : Int))
      else
        tendrillaw07_ArenaPinned_1_L26 K ((1 : Int)) (x.2) ((↑(List.length x.2) : Int)) ((0 : Int)) (r1.fst.1) (r1.fst.snd.1) (r1.fst.snd.snd.fst.fst.1) (r1.fst.snd.snd.fst.fst.snd.1) (r1.fst.snd.snd.fst.fst.snd.snd.1) (r1.fst.snd.snd.fst.fst.snd.snd.2) (r1.fst.snd.snd.fst.snd.fst.1) (r1.fst.snd.snd.fst.snd.fst.snd.1) (r1.fst.snd.snd.fst.snd.fst.snd.snd.1) (r1.fst.snd.snd.fst.snd.fst.snd.snd.2) (r1.fst.snd.snd.fst.snd.snd.1) (r1.fst.snd.snd.fst.snd.snd.snd.1) (r1.fst.snd.snd.fst.snd.snd.snd.snd.1) (r1.fst.snd.snd.fst.snd.snd.snd.snd.2) (r1.fst.snd.snd.snd.1) (r1.fst.snd.snd.snd.2) (List.replicate (Int.toNat (1 : Int)) Bool.false) ([]) ([])
def tendrillaw07_ArenaPinned_1 (x : (Int × (Int × (Int × (Int × Int)))) × (List Int)) : Option (Bool) := tendrillaw07_ArenaPinned_1_K 2000000 x
def tendrillaw07_ArenaPinned_1_S : Sig := ⟨[⟨true, (.pair .int (.pair .int (.pair .int (.pair .int .int))))⟩, ⟨false, (.sl .int)⟩], [⟨false, .bool⟩], false, tendrillaw07_ArenaPinned_1⟩
/-! tendril/tendrillaw07.ArenaPinned -/
mutual
def tendrillaw07_ArenaPinned_2_L26 : Nat → (Int) → (List Int) → (Int) → (Int) → (List Int) → (List Int) → (List Int) → (List Int) → (List Int) → (List Int) → (List Int) → (List Int) → (List Int) → (List Int) → (List Int) → (List Int) → (List Int) → (List Int) → (Int) → (List Int) → (List Bool) → (List (Int × Int)) → (List (Int × Int)) → (List (Int × Int)) → Option (Bool)
  | 0, _, _, _, _, _, _, _, _, _, _, _, _, _, _, _, _, _, _, _, _, _, _, _, _ => none
  | k + 1, p0, p1, p2, p3, p4, p5, p6, p7, p8, p9, p10, p11, p12, p13, p14, p15, p16, p17, p18, p19, p20, p21, p22, p23 =>
    bif Decidable.decide (p3 < p2) then
      bif Decidable.decide ((0 : Int) ≤ p3) then
        bif Decidable.decide (p3 < (↑p1.length : Int)) then
          bif Decidable.decide (p1.getD p3.toNat (0 : Int) < (0 : Int)) then
            some (Bool.true)
          else
            bif Decidable.decide (p0 = (0 : Int)) then
              none
            else
              bif (p1.getD p3.toNat (0 : Int)).tmod (6 : Int) == (0 : Int) then
                (arena_Pin (((p4, p5, ((p6, p7, p8, p9), (p10, p11, p12, p13), p14, p15, p16, p17), p18, p19), (Go.RowKit.wrap64 ((p1.getD p3.toNat (0 : Int)).tdiv (6 : Int))).tmod p0))).bind fun r2 =>
                bif r2.2 == (0 : Int) then
                  bif Decidable.decide ((0 : Int) ≤ (Go.RowKit.wrap64 ((p1.getD p3.toNat (0 : Int)).tdiv (6 : Int))).tmod p0) then
                    bif Decidable.decide ((Go.RowKit.wrap64 ((p1.getD p3.toNat (0 : Int)).tdiv (6 : Int))).tmod p0 < (↑p20.length : Int)) then
                      bif Decidable.decide ((Go.RowKit.wrap64 ((p1.getD p3.toNat (0 : Int)).tdiv (6 : Int))).tmod p0 = (↑(nat_lit 1) : Int)) then
                        tendrillaw07_ArenaPinned_2_L26 k (p0) (p1) (p2) (Go.RowKit.wrap64 (p3 + (1 : Int))) (r2.fst.1) (r2.fst.snd.1) (r2.fst.snd.snd.fst.fst.1) (r2.fst.snd.snd.fst.fst.snd.1) (r2.fst.snd.snd.fst.fst.snd.snd.1) (r2.fst.snd.snd.fst.fst.snd.snd.2) (r2.fst.snd.snd.fst.snd.fst.1) (r2.fst.snd.snd.fst.snd.fst.snd.1) (r2.fst.snd.snd.fst.snd.fst.snd.snd.1) (r2.fst.snd.snd.fst.snd.fst.snd.snd.2) (r2.fst.snd.snd.fst.snd.snd.1) (r2.fst.snd.snd.fst.snd.snd.snd.1) (r2.fst.snd.snd.fst.snd.snd.snd.snd.1) (r2.fst.snd.snd.fst.snd.snd.snd.snd.2) (r2.fst.snd.snd.snd.1) (r2.fst.snd.snd.snd.2) (p20.set ((Go.RowKit.wrap64 ((p1.getD p3.toNat (0 : Int)).tdiv (6 : Int))).tmod p0).toNat Bool.true) (p21) (p22) ([])
                      else
                        bif Decidable.decide ((Go.RowKit.wrap64 ((p1.getD p3.toNat (0 : Int)).tdiv (6 : Int))).tmod p0 = (↑(nat_lit 0) : Int)) then
                          tendrillaw07_ArenaPinned_2_L26 k (p0) (p1) (p2) (Go.RowKit.wrap64 (p3 + (1 : Int))) (r2.fst.1) (r2.fst.snd.1) (r2.fst.snd.snd.fst.fst.1) (r2.fst.snd.snd.fst.fst.snd.1) (r2.fst.snd.snd.fst.fst.snd.snd.1) (r2.fst.snd.snd.fst.fst.snd.snd.2) (r2.fst.snd.snd.fst.snd.fst.1) (r2.fst.snd.snd.fst.snd.fst.snd.1) (r2.fst.snd.snd.fst.snd.fst.snd.snd.1) (r2.fst.snd.snd.fst.snd.fst.snd.snd.2) (r2.fst.snd.snd.fst.snd.snd.1) (r2.fst.snd.snd.fst.snd.snd.snd.1) (r2.fst.snd.snd.fst.snd.snd.snd.snd.1) (r2.fst.snd.snd.fst.snd.snd.snd.snd.2) (r2.fst.snd.snd.snd.1) (r2.fst.snd.snd.snd.2) (p20.set ((Go.RowKit.wrap64 ((p1.getD p3.toNat (0 : Int)).tdiv (6 : Int))).tmod p0).toNat Bool.true) (p21) ([]) (p23)
                        else
                          none
                    else
                      none
                  else
                    none
                else
                  tendrillaw07_ArenaPinned_2_L26 k (p0) (p1) (p2) (Go.RowKit.wrap64 (p3 + (1 : Int))) (p4) (p5) (p6) (p7) (p8) (p9) (p10) (p11) (p12) (p13) (p14) (p15) (p16) (p17) (p18) (p19) (p20) (p21) (p22) (p23)
              else
                bif (p1.getD p3.toNat (0 : Int)).tmod (6 : Int) == (1 : Int) then
                  (arena_End (((p4, p5, ((p6, p7, p8, p9), (p10, p11, p12, p13), p14, p15, p16, p17), p18, p19), (Go.RowKit.wrap64 ((p1.getD p3.toNat (0 : Int)).tdiv (6 : Int))).tmod p0))).bind fun r3 =>
                  bif r3.2 == (0 : Int) then
                    bif Decidable.decide ((0 : Int) ≤ (Go.RowKit.wrap64 ((p1.getD p3.toNat (0 : Int)).tdiv (6 : Int))).tmod p0) then
                      bif Decidable.decide ((Go.RowKit.wrap64 ((p1.getD p3.toNat (0 : Int)).tdiv (6 : Int))).tmod p0 < (↑p20.length : Int)) then
                        tendrillaw07_ArenaPinned_2_L26 k (p0) (p1) (p2) (Go.RowKit.wrap64 (p3 + (1 : Int))) (r3.fst.1) (r3.fst.snd.1) (r3.fst.snd.snd.fst.fst.1) (r3.fst.snd.snd.fst.fst.snd.1) (r3.fst.snd.snd.fst.fst.snd.snd.1) (r3.fst.snd.snd.fst.fst.snd.snd.2) (r3.fst.snd.snd.fst.snd.fst.1) (r3.fst.snd.snd.fst.snd.fst.snd.1) (r3.fst.snd.snd.fst.snd.fst.snd.snd.1) (r3.fst.snd.snd.fst.snd.fst.snd.snd.2) (r3.fst.snd.snd.fst.snd.snd.1) (r3.fst.snd.snd.fst.snd.snd.snd.1) (r3.fst.snd.snd.fst.snd.snd.snd.snd.1) (r3.fst.snd.snd.fst.snd.snd.snd.snd.2) (r3.fst.snd.snd.snd.1) (r3.fst.snd.snd.snd.2) (p20.set ((Go.RowKit.wrap64 ((p1.getD p3.toNat (0 : Int)).tdiv (6 : Int))).tmod p0).toNat Bool.false) (p21) (p22) (p23)
                      else
                        none
                    else
                      none
                  else
                    tendrillaw07_ArenaPinned_2_L26 k (p0) (p1) (p2) (Go.RowKit.wrap64 (p3 + (1 : Int))) (p4) (p5) (p6) (p7) (p8) (p9) (p10) (p11) (p12) (p13) (p14) (p15) (p16) (p17) (p18) (p19) (p20) (p21) (p22) (p23)
                else
                  bif (p1.getD p3.toNat (0 : Int)).tmod (6 : Int) == (2 : Int) then
                    (arena_Turn ((p4, p5, ((p6, p7, p8, p9), (p10, p11, p12, p13), p14, p15, p16, p17), p18, p19))).bind fun r4 =>
                    tendrillaw07_ArenaPinned_2_L26 k (p0) (p1) (p2) (Go.RowKit.wrap64 (p3 + (1 : Int))) (r4.fst.1) (r4.fst.snd.1) (r4.fst.snd.snd.fst.fst.1) (r4.fst.snd.snd.fst.fst.snd.1) (r4.fst.snd.snd.fst.fst.snd.snd.1) (r4.fst.snd.snd.fst.fst.snd.snd.2) (r4.fst.snd.snd.fst.snd.fst.1) (r4.fst.snd.snd.fst.snd.fst.snd.1) (r4.fst.snd.snd.fst.snd.fst.snd.snd.1) (r4.fst.snd.snd.fst.snd.fst.snd.snd.2) (r4.fst.snd.snd.fst.snd.snd.1) (r4.fst.snd.snd.fst.snd.snd.snd.1) (r4.fst.snd.snd.fst.snd.snd.snd.snd.1) (r4.fst.snd.snd.fst.snd.snd.snd.snd.2) (r4.fst.snd.snd.snd.1) (r4.fst.snd.snd.snd.2) (p20) (p21) (p22) (p23)
                  else
                    bif (p1.getD p3.toNat (0 : Int)).tmod (6 : Int) == (3 : Int) then
                      (arena_Take (((p4, p5, ((p6, p7, p8, p9), (p10, p11, p12, p13), p14, p15, p16, p17), p18, p19), Go.RowKit.wrap64 ((Go.RowKit.wrap64 ((p1.getD p3.toNat (0 : Int)).tdiv (6 : Int))).tmod (3 : Int) + (1 : Int))))).bind fun r5 =>
                      bif r5.snd.2 != (0 : Int) then
                        tendrillaw07_ArenaPinned_2_L26 k (p0) (p1) (p2) (Go.RowKit.wrap64 (p3 + (1 : Int))) (p4) (p5) (p6) (p7) (p8) (p9) (p10) (p11) (p12) (p13) (p14) (p15) (p16) (p17) (p18) (p19) (p20) (p21) (p22) (p23)
                      else
                        (tag_Unpack (r5.snd.1)).bind fun r6 =>
                        bif r6.snd.2 != (0 : Int) then
                          some (Bool.false)
                        else
                          tendrillaw07_ArenaPinned_2_L116 k (p0) (Go.RowKit.wrap64 ((Go.RowKit.wrap64 ((p1.getD p3.toNat (0 : Int)).tdiv (6 : Int))).tmod (3 : Int) + (1 : Int))) (r5.snd.1) (r6.1) (p1) (p2) (p3) ((↑(2 : Nat) : Int)) ((0 : Int)) (r5.fst.1) (r5.fst.snd.1) (r5.fst.snd.snd.fst.fst.1) (r5.fst.snd.snd.fst.fst.snd.1) (r5.fst.snd.snd.fst.fst.snd.snd.1) (r5.fst.snd.snd.fst.fst.snd.snd.2) (r5.fst.snd.snd.fst.snd.fst.1) (r5.fst.snd.snd.fst.snd.fst.snd.1) (r5.fst.snd.snd.fst.snd.fst.snd.snd.1) (r5.fst.snd.snd.fst.snd.fst.snd.snd.2) (r5.fst.snd.snd.fst.snd.snd.1) (r5.fst.snd.snd.fst.snd.snd.snd.1) (r5.fst.snd.snd.fst.snd.snd.snd.snd.1) (r5.fst.snd.snd.fst.snd.snd.snd.snd.2) (r5.fst.snd.snd.snd.1) (r5.fst.snd.snd.snd.2) (p20) (p21) (p22) (p23)
                    else
                      bif (p1.getD p3.toNat (0 : Int)).tmod (6 : Int) == (4 : Int) then
                        (arena_Take (((p4, p5, ((p6, p7, p8, p9), (p10, p11, p12, p13), p14, p15, p16, p17), p18, p19), Go.RowKit.wrap64 ((Go.RowKit.wrap64 ((p1.getD p3.toNat (0 : Int)).tdiv (6 : Int))).tmod (3 : Int) + (1 : Int))))).bind fun r7 =>
                        bif r7.snd.2 != (0 : Int) then
                          tendrillaw07_ArenaPinned_2_L26 k (p0) (p1) (p2) (Go.RowKit.wrap64 (p3 + (1 : Int))) (p4) (p5) (p6) (p7) (p8) (p9) (p10) (p11) (p12) (p13) (p14) (p15) (p16) (p17) (p18) (p19) (p20) (p21) (p22) (p23)
                        else
                          (tag_Unpack (r7.snd.1)).bind fun r8 =>
                          bif r8.snd.2 != (0 : Int) then
                            some (Bool.false)
                          else
                            tendrillaw07_ArenaPinned_2_L116 k (p0) (Go.RowKit.wrap64 ((Go.RowKit.wrap64 ((p1.getD p3.toNat (0 : Int)).tdiv (6 : Int))).tmod (3 : Int) + (1 : Int))) (r7.snd.1) (r8.1) (p1) (p2) (p3) ((↑(2 : Nat) : Int)) ((0 : Int)) (r7.fst.1) (r7.fst.snd.1) (r7.fst.snd.snd.fst.fst.1) (r7.fst.snd.snd.fst.fst.snd.1) (r7.fst.snd.snd.fst.fst.snd.snd.1) (r7.fst.snd.snd.fst.fst.snd.snd.2) (r7.fst.snd.snd.fst.snd.fst.1) (r7.fst.snd.snd.fst.snd.fst.snd.1) (r7.fst.snd.snd.fst.snd.fst.snd.snd.1) (r7.fst.snd.snd.fst.snd.fst.snd.snd.2) (r7.fst.snd.snd.fst.snd.snd.1) (r7.fst.snd.snd.fst.snd.snd.snd.1) (r7.fst.snd.snd.fst.snd.snd.snd.snd.1) (r7.fst.snd.snd.fst.snd.snd.snd.snd.2) (r7.fst.snd.snd.snd.1) (r7.fst.snd.snd.snd.2) (p20) (p21) (p22) (p23)
                      else
                        bif (↑p21.length : Int) == (0 : Int) then
                          tendrillaw07_ArenaPinned_2_L26 k (p0) (p1) (p2) (Go.RowKit.wrap64 (p3 + (1 : Int))) (p4) (p5) (p6) (p7) (p8) (p9) (p10) (p11) (p12) (p13) (p14) (p15) (p16) (p17) (p18) (p19) (p20) (p21) (p22) (p23)
                        else
                          bif Decidable.decide ((↑p21.length : Int) = (0 : Int)) then
                            none
                          else
                            bif Decidable.decide ((0 : Int) ≤ (Go.RowKit.wrap64 ((p1.getD p3.toNat (0 : Int)).tdiv (6 : Int))).tmod (↑p21.length : Int)) then
                              bif Decidable.decide ((Go.RowKit.wrap64 ((p1.getD p3.toNat (0 : Int)).tdiv (6 : Int))).tmod (↑p21.length : Int) < (↑p21.length : Int)) then
                                bif Decidable.decide ((↑(0 : Nat) : Int) ≤ (Go.RowKit.wrap64 ((p1.getD p3.toNat (0 : Int)).tdiv (6 : Int))).tmod (↑p21.length : Int)) then
                                  bif Decidable.decide ((Go.RowKit.wrap64 ((p1.getD p3.toNat (0 : Int)).tdiv (6 : Int))).tmod (↑p21.length : Int) ≤ (↑p21.length : Int)) then
                                    bif Decidable.decide ((0 : Nat) + (List.drop (0 : Nat) (List.take ((Go.RowKit.wrap64 ((p1.getD p3.toNat (0 : Int)).tdiv (6 : Int))).tmod (↑p21.length : Int)).toNat p21)).length ≤ (1000000 : Nat)) then
                                      bif Decidable.decide ((↑(0 : Nat) : Int) ≤ Go.RowKit.wrap64 ((Go.RowKit.wrap64 ((p1.getD p3.toNat (0 : Int)).tdiv (6 : Int))).tmod (↑p21.length : Int) + (1 : Int))) then
                                        bif Decidable.decide (Go.RowKit.wrap64 ((Go.RowKit.wrap64 ((p1.getD p3.toNat (0 : Int)).tdiv (6 : Int))).tmod (↑p21.length : Int) + (1 : Int)) ≤ (↑p21.length : Int)) then
                                          bif Decidable.decide ((List.drop (0 : Nat) (List.take ((Go.RowKit.wrap64 ((p1.getD p3.toNat (0 : Int)).tdiv (6 : Int))).tmod (↑p21.length : Int)).toNat p21)).length + (List.drop (Go.RowKit.wrap64 ((Go.RowKit.wrap64 ((p1.getD p3.toNat (0 : Int)).tdiv (6 : Int))).tmod (↑p21.length : Int) + (1 : Int))).toNat (List.take p21.length p21)).length ≤ (1000000 : Nat)) then
                                            (arena_Retire (((p4, p5, ((p6, p7, p8, p9), (p10, p11, p12, p13), p14, p15, p16, p17), p18, p19), (p21.getD ((Go.RowKit.wrap64 (Int.tdiv (p1.getD p3.toNat (0 : Int)) (6 : Int))).tmod ((↑p21.length : Int) : Int)).toNat ((0 : Int), (0 : Int))).1, (p21.getD ((Go.RowKit.wrap64 (Int.tdiv (p1.getD p3.toNat (0 : Int)) (6 : Int))).tmod ((↑p21.length : Int) : Int)).toNat ((0 : Int), (0 : Int))).2))).bind fun r9 =>
                                            (tag_Unpack ((p21.getD ((Go.RowKit.wrap64 (Int.tdiv (p1.getD p3.toNat (0 : Int)) (6 : Int))).tmod ((↑p21.length : Int) : Int)).toNat ((0 : Int), (0 : Int))).2)).bind fun r10 =>
                                            bif r9.2 != (0 : Int) then
                                              some (Bool.false)
                                            else
                                              bif r10.snd.2 != (0 : Int) then
                                                some (Bool.false)
                                              else
                                                tendrillaw07_ArenaPinned_2_L62 k (p0) (r10.1) (p1) (p2) (p3) ((↑(2 : Nat) : Int)) ((0 : Int)) (r9.fst.1) (r9.fst.snd.1) (r9.fst.snd.snd.fst.fst.1) (r9.fst.snd.snd.fst.fst.snd.1) (r9.fst.snd.snd.fst.fst.snd.snd.1) (r9.fst.snd.snd.fst.fst.snd.snd.2) (r9.fst.snd.snd.fst.snd.fst.1) (r9.fst.snd.snd.fst.snd.fst.snd.1) (r9.fst.snd.snd.fst.snd.fst.snd.snd.1) (r9.fst.snd.snd.fst.snd.fst.snd.snd.2) (r9.fst.snd.snd.fst.snd.snd.1) (r9.fst.snd.snd.fst.snd.snd.snd.1) (r9.fst.snd.snd.fst.snd.snd.snd.snd.1) (r9.fst.snd.snd.fst.snd.snd.snd.snd.2) (r9.fst.snd.snd.snd.1) (r9.fst.snd.snd.snd.2) (p20) (List.drop (0 : Nat) (List.take ((Go.RowKit.wrap64 ((p1.getD p3.toNat (0 : Int)).tdiv (6 : Int))).tmod (↑p21.length : Int)).toNat p21) ++ List.drop (Go.RowKit.wrap64 ((Go.RowKit.wrap64 ((p1.getD p3.toNat (0 : Int)).tdiv (6 : Int))).tmod (↑p21.length : Int) + (1 : Int))).toNat (List.take p21.length p21)) ((p21.getD ((Go.RowKit.wrap64 (Int.tdiv (p1.getD p3.toNat (0 : Int)) (6 : Int))).tmod ((↑p21.length : Int) : Int)).toNat ((0 : Int), (0 : Int))).1) ((p21.getD ((Go.RowKit.wrap64 (Int.tdiv (p1.getD p3.toNat (0 : Int)) (6 : Int))).tmod ((↑p21.length : Int) : Int)).toNat ((0 : Int), (0 : Int))).2) (p22) (p23)
                                          else
                                            none
                                        else
                                          none
                                      else
                                        none
                                    else
                                      none
                                  else
                                    none
                                else
                                  none
                              else
                                none
                            else
                              none
        else
          none
      else
        none
    else
      (arena_Check ((p4, p5, ((p6, p7, p8, p9), (p10, p11, p12, p13), p14, p15, p16, p17), p18, p19))).bind fun r11 =>
      some (r11 == (0 : Int))
def tendrillaw07_ArenaPinned_2_L116 : Nat → (Int) → (Int) → (Int) → (Int) → (List Int) → (Int) → (Int) → (Int) → (Int) → (List Int) → (List Int) → (List Int) → (List Int) → (List Int) → (List Int) → (List Int) → (List Int) → (List Int) → (List Int) → (List Int) → (List Int) → (List Int) → (List Int) → (Int) → (List Int) → (List Bool) → (List (Int × Int)) → (List (Int × Int)) → (List (Int × Int)) → Option (Bool)
  | 0, _, _, _, _, _, _, _, _, _, _, _, _, _, _, _, _, _, _, _, _, _, _, _, _, _, _, _, _, _ => none
  | k + 1, p0, p1, p2, p3, p4, p5, p6, p7, p8, p9, p10, p11, p12, p13, p14, p15, p16, p17, p18, p19, p20, p21, p22, p23, p24, p25, p26, p27, p28 =>
    bif Decidable.decide (p8 < p7) then
      bif Decidable.decide (p8 = (↑(nat_lit 1) : Int)) then
        tendrillaw07_ArenaPinned_2_L122 k (p0) (p1) (p2) (p3) (p8) (p4) (p5) (p6) (p7) (p8) ((↑p28.length : Int)) ((0 : Int)) (p9) (p10) (p11) (p12) (p13) (p14) (p15) (p16) (p17) (p18) (p19) (p20) (p21) (p22) (p23) (p24) (p25) (p26) (p28) (p27)
      else
        bif Decidable.decide (p8 = (↑(nat_lit 0) : Int)) then
          tendrillaw07_ArenaPinned_2_L122x1 k (p0) (p1) (p2) (p3) (p8) (p4) (p5) (p6) (p7) (p8) ((↑p27.length : Int)) ((0 : Int)) (p9) (p10) (p11) (p12) (p13) (p14) (p15) (p16) (p17) (p18) (p19) (p20) (p21) (p22) (p23) (p24) (p25) (p26) (p27) (p28)
        else
          none
    else
      bif Decidable.decide (p26.length + [(p1, p2)].length ≤ (1000000 : Nat)) then
        tendrillaw07_ArenaPinned_2_L26 k (p0) (p4) (p5) (Go.RowKit.wrap64 (p6 + (1 : Int))) (p9) (p10) (p11) (p12) (p13) (p14) (p15) (p16) (p17) (p18) (p19) (p20) (p21) (p22) (p23) (p24) (p25) (p26 ++ [(p1, p2)]) (p27) (p28)
      else
        none
def tendrillaw07_ArenaPinned_2_L62 : Nat → (Int) → (Int) → (List Int) → (Int) → (Int) → (Int) → (Int) → (List Int) → (List Int) → (List Int) → (List Int) → (List Int) → (List Int) → (List Int) → (List Int) → (List Int) → (List Int) → (List Int) → (List Int) → (List Int) → (List Int) → (Int) → (List Int) → (List Bool) → (List (Int × Int)) → (Int) → (Int) → (List (Int × Int)) → (List (Int × Int)) → Option (Bool)
  | 0, _, _, _, _, _, _, _, _, _, _, _, _, _, _, _, _, _, _, _, _, _, _, _, _, _, _, _, _, _ => none
  | k + 1, p0, p1, p2, p3, p4, p5, p6, p7, p8, p9, p10, p11, p12, p13, p14, p15, p16, p17, p18, p19, p20, p21, p22, p23, p24, p25, p26, p27, p28 =>
    bif Decidable.decide (p6 < p5) then
      bif Decidable.decide ((0 : Int) ≤ p6) then
        bif Decidable.decide (p6 < (↑p23.length : Int)) then
          bif p23.getD p6.toNat Bool.false then
            bif Decidable.decide (p6 = (↑(nat_lit 1) : Int)) then
              bif Decidable.decide (p28.length + [(p25, p1)].length ≤ (1000000 : Nat)) then
                bif Decidable.decide (p6 = (↑(nat_lit 1) : Int)) then
                  tendrillaw07_ArenaPinned_2_L62 k (p0) (p1) (p2) (p3) (p4) (p5) (Go.RowKit.wrap64 (p6 + (1 : Int))) (p7) (p8) (p9) (p10) (p11) (p12) (p13) (p14) (p15) (p16) (p17) (p18) (p19) (p20) (p21) (p22) (p23) (p24) (p25) (p26) (p27) (p28 ++ [(p25, p1)])
                else
                  bif Decidable.decide (p6 = (↑(nat_lit 0) : Int)) then
                    none
                  else
                    none
              else
                none
            else
              bif Decidable.decide (p6 = (↑(nat_lit 0) : Int)) then
                bif Decidable.decide (p27.length + [(p25, p1)].length ≤ (1000000 : Nat)) then
                  bif Decidable.decide (p6 = (↑(nat_lit 1) : Int)) then
                    none
                  else
                    bif Decidable.decide (p6 = (↑(nat_lit 0) : Int)) then
                      tendrillaw07_ArenaPinned_2_L62 k (p0) (p1) (p2) (p3) (p4) (p5) (Go.RowKit.wrap64 (p6 + (1 : Int))) (p7) (p8) (p9) (p10) (p11) (p12) (p13) (p14) (p15) (p16) (p17) (p18) (p19) (p20) (p21) (p22) (p23) (p24) (p25) (p26) (p27 ++ [(p25, p1)]) (p28)
                    else
                      none
                else
                  none
              else
                none
          else
            tendrillaw07_ArenaPinned_2_L62 k (p0) (p1) (p2) (p3) (p4) (p5) (Go.RowKit.wrap64 (p6 + (1 : Int))) (p7) (p8) (p9) (p10) (p11) (p12) (p13) (p14) (p15) (p16) (p17) (p18) (p19) (p20) (p21) (p22) (p23) (p24) (p25) (p26) (p27) (p28)
        else
          none
      else
        none
    else
      tendrillaw07_ArenaPinned_2_L26 k (p0) (p2) (p3) (Go.RowKit.wrap64 (p4 + (1 : Int))) (p7) (p8) (p9) (p10) (p11) (p12) (p13) (p14) (p15) (p16) (p17) (p18) (p19) (p20) (p21) (p22) (p23) (p24) (p27) (p28)
def tendrillaw07_ArenaPinned_2_L122 : Nat → (Int) → (Int) → (Int) → (Int) → (Int) → (List Int) → (Int) → (Int) → (Int) → (Int) → (Int) → (Int) → (List Int) → (List Int) → (List Int) → (List Int) → (List Int) → (List Int) → (List Int) → (List Int) → (List Int) → (List Int) → (List Int) → (List Int) → (List Int) → (List Int) → (Int) → (List Int) → (List Bool) → (List (Int × Int)) → (List (Int × Int)) → (List (Int × Int)) → Option (Bool)
  | 0, _, _, _, _, _, _, _, _, _, _, _, _, _, _, _, _, _, _, _, _, _, _, _, _, _, _, _, _, _, _, _, _ => none
  | k + 1, p0, p1, p2, p3, p4, p5, p6, p7, p8, p9, p10, p11, p12, p13, p14, p15, p16, p17, p18, p19, p20, p21, p22, p23, p24, p25, p26, p27, p28, p29, p30, p31 =>
    bif Decidable.decide (p11 < p10) then
      bif Decidable.decide ((0 : Int) ≤ p11) then
        bif Decidable.decide (p11 < (↑p30.length : Int)) then
          bif Decidable.decide ((0 : Int) ≤ p4) then
            bif Decidable.decide (p4 < (↑p28.length : Int)) then
              bif p28.getD p4.toNat Bool.false then
                bif (p30.getD p11.toNat ((0 : Int), (0 : Int))).1 == p1 && ((p30.getD p11.toNat ((0 : Int), (0 : Int))).2 == p3 && Bool.true) then
                  some (Bool.false)
                else
                  tendrillaw07_ArenaPinned_2_L122 k (p0) (p1) (p2) (p3) (p4) (p5) (p6) (p7) (p8) (p9) (p10) (Go.RowKit.wrap64 (p11 + (1 : Int))) (p12) (p13) (p14) (p15) (p16) (p17) (p18) (p19) (p20) (p21) (p22) (p23) (p24) (p25) (p26) (p27) (p28) (p29) (p30) (p31)
              else
                tendrillaw07_ArenaPinned_2_L122 k (p0) (p1) (p2) (p3) (p4) (p5) (p6) (p7) (p8) (p9) (p10) (Go.RowKit.wrap64 (p11 + (1 : Int))) (p12) (p13) (p14) (p15) (p16) (p17) (p18) (p19) (p20) (p21) (p22) (p23) (p24) (p25) (p26) (p27) (p28) (p29) (p30) (p31)
            else
              none
          else
            none
        else
          none
      else
        none
    else
      tendrillaw07_ArenaPinned_2_L116 k (p0) (p1) (p2) (p3) (p5) (p6) (p7) (p8) (Go.RowKit.wrap64 (p9 + (1 : Int))) (p12) (p13) (p14) (p15) (p16) (p17) (p18) (p19) (p20) (p21) (p22) (p23) (p24) (p25) (p26) (p27) (p28) (p29) (p31) (p30)
def tendrillaw07_ArenaPinned_2_L122x1 : Nat → (Int) → (Int) → (Int) → (Int) → (Int) → (List Int) → (Int) → (Int) → (Int) → (Int) → (Int) → (Int) → (List Int) → (List Int) → (List Int) → (List Int) → (List Int) → (List Int) → (List Int) → (List Int) → (List Int) → (List Int) → (List Int) → (List Int) → (List Int) → (List Int) → (Int) → (List Int) → (List Bool) → (List (Int × Int)) → (List (Int × Int)) → (List (Int × Int)) → Option (Bool)
  | 0, _, _, _, _, _, _, _, _, _, _, _, _, _, _, _, _, _, _, _, _, _, _, _, _, _, _, _, _, _, _, _, _ => none
  | k + 1, p0, p1, p2, p3, p4, p5, p6, p7, p8, p9, p10, p11, p12, p13, p14, p15, p16, p17, p18, p19, p20, p21, p22, p23, p24, p25, p26, p27, p28, p29, p30, p31 =>
    bif Decidable.decide (p11 < p10) then
      bif Decidable.decide ((0 : Int) ≤ p11) then
        bif Decidable.decide (p11 < (↑p30.length : Int)) then
          bif Decidable.decide ((0 : Int) ≤ p4) then
            bif Decidable.decide (p4 < (↑p28.length : Int)) then
              bif p28.getD p4.toNat Bool.false then
                bif (p30.getD p11.toNat ((0 : Int), (0 : Int))).1 == p1 && ((p30.getD p11.toNat ((0 : Int), (0 : Int))).2 == p3 && Bool.true) then
                  some (Bool.false)
                else
                  tendrillaw07_ArenaPinned_2_L122x1 k (p0) (p1) (p2) (p3) (p4) (p5) (p6) (p7) (p8) (p9) (p10) (Go.RowKit.wrap64 (p11 + (1 : Int))) (p12) (p13) (p14) (p15) (p16) (p17) (p18) (p19) (p20) (p21) (p22) (p23) (p24) (p25) (p26) (p27) (p28) (p29) (p30) (p31)
              else
                tendrillaw07_ArenaPinned_2_L122x1 k (p0) (p1) (p2) (p3) (p4) (p5) (p6) (p7) (p8) (p9) (p10) (Go.RowKit.wrap64 (p11 + (1 : Int))) (p12) (p13) (p14) (p15) (p16) (p17) (p18) (p19) (p20) (p21) (p22) (p23) (p24) (p25) (p26) (p27) (p28) (p29) (p30) (p31)
            else
              none
          else
            none
        else
          none
      else
        none
    else
      tendrillaw07_ArenaPinned_2_L116 k (p0) (p1) (p2) (p3) (p5) (p6) (p7) (p8) (Go.RowKit.wrap64 (p9 + (1 : Int))) (p12) (p13) (p14) (p15) (p16) (p17) (p18) (p19) (p20) (p21) (p22) (p23) (p24) (p25) (p26) (p27) (p28) (p29) (p30) (p31)
end
def tendrillaw07_ArenaPinned_2_K (K : Nat) (x : (Int × Int × Int × Int × Int) × List Int) : Option (Bool) :=
  (tendrillaw07_live (())).bind fun r0 =>
  bif !r0 then
    some (Bool.false)
  else
    bif Decidable.decide ((120 : Int) < (↑(List.length x.2) : Int)) then
      some (Bool.true)
    else
      (arena_New (((x.fst.1, x.fst.snd.1, x.fst.snd.snd.1, x.fst.snd.snd.snd.1, x.fst.snd.snd.snd.2), (2 : Int)))).bind fun r1 =>
      bif r1.2 != (0 : Int) then
        some ((↑(List.length r1.fst.snd.snd.snd.2) : Int) == (0 : Int))
      else
        tendrillaw07_ArenaPinned_2_L26 K ((2 : Int)) (x.2) ((↑(List.length x.2) : Int)) ((0 : Int)) (r1.fst.1) (r1.fst.snd.1) (r1.fst.snd.snd.fst.fst.1) (r1.fst.snd.snd.fst.fst.snd.1) (r1.fst.snd.snd.fst.fst.snd.snd.1) (r1.fst.snd.snd.fst.fst.snd.snd.2) (r1.fst.snd.snd.fst.snd.fst.1) (r1.fst.snd.snd.fst.snd.fst.snd.1) (r1.fst.snd.snd.fst.snd.fst.snd.snd.1) (r1.fst.snd.snd.fst.snd.fst.snd.snd.2) (r1.fst.snd.snd.fst.snd.snd.1) (r1.fst.snd.snd.fst.snd.snd.snd.1) (r1.fst.snd.snd.fst.snd.snd.snd.snd.1) (r1.fst.snd.snd.fst.snd.snd.snd.snd.2) (r1.fst.snd.snd.snd.1) (r1.fst.snd.snd.snd.2) (List.replicate (Int.toNat (2 : Int)) Bool.false) ([]) ([]) ([])
def tendrillaw07_ArenaPinned_2 (x : (Int × (Int × (Int × (Int × Int)))) × (List Int)) : Option (Bool) := tendrillaw07_ArenaPinned_2_K 2000000 x
def tendrillaw07_ArenaPinned_2_S : Sig := ⟨[⟨true, (.pair .int (.pair .int (.pair .int (.pair .int .int))))⟩, ⟨false, (.sl .int)⟩], [⟨false, .bool⟩], false, tendrillaw07_ArenaPinned_2⟩
/-! tendril/tendrillaw07.ArenaPinned -/
mutual
def tendrillaw07_ArenaPinned_3_L26 : Nat → (Int) → (List Int) → (Int) → (Int) → (List Int) → (List Int) → (List Int) → (List Int) → (List Int) → (List Int) → (List Int) → (List Int) → (List Int) → (List Int) → (List Int) → (List Int) → (List Int) → (List Int) → (Int) → (List Int) → (List Bool) → (List (Int × Int)) → (List (Int × Int)) → (List (Int × Int)) → (List (Int × Int)) → Option (Bool)
  | 0, _, _, _, _, _, _, _, _, _, _, _, _, _, _, _, _, _, _, _, _, _, _, _, _, _ => none
  | k + 1, p0, p1, p2, p3, p4, p5, p6, p7, p8, p9, p10, p11, p12, p13, p14, p15, p16, p17, p18, p19, p20, p21, p22, p23, p24 =>
    bif Decidable.decide (p3 < p2) then
      bif Decidable.decide ((0 : Int) ≤ p3) then
        bif Decidable.decide (p3 < (↑p1.length : Int)) then
          bif Decidable.decide (p1.getD p3.toNat (0 : Int) < (0 : Int)) then
            some (Bool.true)
          else
            bif Decidable.decide (p0 = (0 : Int)) then
              none
            else
              bif (p1.getD p3.toNat (0 : Int)).tmod (6 : Int) == (0 : Int) then
                (arena_Pin (((p4, p5, ((p6, p7, p8, p9), (p10, p11, p12, p13), p14, p15, p16, p17), p18, p19), (Go.RowKit.wrap64 ((p1.getD p3.toNat (0 : Int)).tdiv (6 : Int))).tmod p0))).bind fun r2 =>
                bif r2.2 == (0 : Int) then
                  bif Decidable.decide ((0 : Int) ≤ (Go.RowKit.wrap64 ((p1.getD p3.toNat (0 : Int)).tdiv (6 : Int))).tmod p0) then
                    bif Decidable.decide ((Go.RowKit.wrap64 ((p1.getD p3.toNat (0 : Int)).tdiv (6 : Int))).tmod p0 < (↑p20.length : Int)) then
                      bif Decidable.decide ((Go.RowKit.wrap64 ((p1.getD p3.toNat (0 : Int)).tdiv (6 : Int))).tmod p0 = (↑(nat_lit 2) : Int)) then
                        tendrillaw07_ArenaPinned_3_L26 k (p0) (p1) (p2) (Go.RowKit.wrap64 (p3 + (1 : Int))) (r2.fst.1) (r2.fst.snd.1) (r2.fst.snd.snd.fst.fst.1) (r2.fst.snd.snd.fst.fst.snd.1) (r2.fst.snd.snd.fst.fst.snd.snd.1) (r2.fst.snd.snd.fst.fst.snd.snd.2) (r2.fst.snd.snd.fst.snd.fst.1) (r2.fst.snd.snd.fst.snd.fst.snd.1) (r2.fst.snd.snd.fst.snd.fst.snd.snd.1) (r2.fst.snd.snd.fst.snd.fst.snd.snd.2) (r2.fst.snd.snd.fst.snd.snd.1) (r2.fst.snd.snd.fst.snd.snd.snd.1) (r2.fst.snd.snd.fst.snd.snd.snd.snd.1) (r2.fst.snd.snd.fst.snd.snd.snd.snd.2) (r2.fst.snd.snd.snd.1) (r2.fst.snd.snd.snd.2) (p20.set ((Go.RowKit.wrap64 ((p1.getD p3.toNat (0 : Int)).tdiv (6 : Int))).tmod p0).toNat Bool.true) (p21) (p22) (p23) ([])
                      else
                        bif Decidable.decide ((Go.RowKit.wrap64 ((p1.getD p3.toNat (0 : Int)).tdiv (6 : Int))).tmod p0 = (↑(nat_lit 1) : Int)) then
                          tendrillaw07_ArenaPinned_3_L26 k (p0) (p1) (p2) (Go.RowKit.wrap64 (p3 + (1 : Int))) (r2.fst.1) (r2.fst.snd.1) (r2.fst.snd.snd.fst.fst.1) (r2.fst.snd.snd.fst.fst.snd.1) (r2.fst.snd.snd.fst.fst.snd.snd.1) (r2.fst.snd.snd.fst.fst.snd.snd.2) (r2.fst.snd.snd.fst.snd.fst.1) (r2.fst.snd.snd.fst.snd.fst.snd.1) (r2.fst.snd.snd.fst.snd.fst.snd.snd.1) (r2.fst.snd.snd.fst.snd.fst.snd.snd.2) (r2.fst.snd.snd.fst.snd.snd.1) (r2.fst.snd.snd.fst.snd.snd.snd.1) (r2.fst.snd.snd.fst.snd.snd.snd.snd.1) (r2.fst.snd.snd.fst.snd.snd.snd.snd.2) (r2.fst.snd.snd.snd.1) (r2.fst.snd.snd.snd.2) (p20.set ((Go.RowKit.wrap64 ((p1.getD p3.toNat (0 : Int)).tdiv (6 : Int))).tmod p0).toNat Bool.true) (p21) (p22) ([]) (p24)
                        else
                          bif Decidable.decide ((Go.RowKit.wrap64 ((p1.getD p3.toNat (0 : Int)).tdiv (6 : Int))).tmod p0 = (↑(nat_lit 0) : Int)) then
                            tendrillaw07_ArenaPinned_3_L26 k (p0) (p1) (p2) (Go.RowKit.wrap64 (p3 + (1 : Int))) (r2.fst.1) (r2.fst.snd.1) (r2.fst.snd.snd.fst.fst.1) (r2.fst.snd.snd.fst.fst.snd.1) (r2.fst.snd.snd.fst.fst.snd.snd.1) (r2.fst.snd.snd.fst.fst.snd.snd.2) (r2.fst.snd.snd.fst.snd.fst.1) (r2.fst.snd.snd.fst.snd.fst.snd.1) (r2.fst.snd.snd.fst.snd.fst.snd.snd.1) (r2.fst.snd.snd.fst.snd.fst.snd.snd.2) (r2.fst.snd.snd.fst.snd.snd.1) (r2.fst.snd.snd.fst.snd.snd.snd.1) (r2.fst.snd.snd.fst.snd.snd.snd.snd.1) (r2.fst.snd.snd.fst.snd.snd.snd.snd.2) (r2.fst.snd.snd.snd.1) (r2.fst.snd.snd.snd.2) (p20.set ((Go.RowKit.wrap64 ((p1.getD p3.toNat (0 : Int)).tdiv (6 : Int))).tmod p0).toNat Bool.true) (p21) ([]) (p23) (p24)
                          else
                            none
                    else
                      none
                  else
                    none
                else
                  tendrillaw07_ArenaPinned_3_L26 k (p0) (p1) (p2) (Go.RowKit.wrap64 (p3 + (1 : Int))) (p4) (p5) (p6) (p7) (p8) (p9) (p10) (p11) (p12) (p13) (p14) (p15) (p16) (p17) (p18) (p19) (p20) (p21) (p22) (p23) (p24)
              else
                bif (p1.getD p3.toNat (0 : Int)).tmod (6 : Int) == (1 : Int) then
                  (arena_End (((p4, p5, ((p6, p7, p8, p9), (p10, p11, p12, p13), p14, p15, p16, p17), p18, p19), (Go.RowKit.wrap64 ((p1.getD p3.toNat (0 : Int)).tdiv (6 : Int))).tmod p0))).bind fun r3 =>
                  bif r3.2 == (0 : Int) then
                    bif Decidable.decide ((0 : Int) ≤ (Go.RowKit.wrap64 ((p1.getD p3.toNat (0 : Int)).tdiv (6 : Int))).tmod p0) then
                      bif Decidable.decide ((Go.RowKit.wrap64 ((p1.getD p3.toNat (0 : Int)).tdiv (6 : Int))).tmod p0 < (↑p20.length : Int)) then
                        tendrillaw07_ArenaPinned_3_L26 k (p0) (p1) (p2) (Go.RowKit.wrap64 (p3 + (1 : Int))) (r3.fst.1) (r3.fst.snd.1) (r3.fst.snd.snd.fst.fst.1) (r3.fst.snd.snd.fst.fst.snd.1) (r3.fst.snd.snd.fst.fst.snd.snd.1) (r3.fst.snd.snd.fst.fst.snd.snd.2) (r3.fst.snd.snd.fst.snd.fst.1) (r3.fst.snd.snd.fst.snd.fst.snd.1) (r3.fst.snd.snd.fst.snd.fst.snd.snd.1) (r3.fst.snd.snd.fst.snd.fst.snd.snd.2) (r3.fst.snd.snd.fst.snd.snd.1) (r3.fst.snd.snd.fst.snd.snd.snd.1) (r3.fst.snd.snd.fst.snd.snd.snd.snd.1) (r3.fst.snd.snd.fst.snd.snd.snd.snd.2) (r3.fst.snd.snd.snd.1) (r3.fst.snd.snd.snd.2) (p20.set ((Go.RowKit.wrap64 ((p1.getD p3.toNat (0 : Int)).tdiv (6 : Int))).tmod p0).toNat Bool.false) (p21) (p22) (p23) (p24)
                      else
                        none
                    else
                      none
                  else
                    tendrillaw07_ArenaPinned_3_L26 k (p0) (p1) (p2) (Go.RowKit.wrap64 (p3 + (1 : Int))) (p4) (p5) (p6) (p7) (p8) (p9) (p10) (p11) (p12) (p13) (p14) (p15) (p16) (p17) (p18) (p19) (p20) (p21) (p22) (p23) (p24)
                else
                  bif (p1.getD p3.toNat (0 : Int)).tmod (6 : Int) == (2 : Int) then
                    (arena_Turn ((p4, p5, ((p6, p7, p8, p9), (p10, p11, p12, p13), p14, p15, p16, p17), p18, p19))).bind fun r4 =>
                    tendrillaw07_ArenaPinned_3_L26 k (p0) (p1) (p2) (Go.RowKit.wrap64 (p3 + (1 : Int))) (r4.fst.1) (r4.fst.snd.1) (r4.fst.snd.snd.fst.fst.1) (r4.fst.snd.snd.fst.fst.snd.1) (r4.fst.snd.snd.fst.fst.snd.snd.1) (r4.fst.snd.snd.fst.fst.snd.snd.2) (r4.fst.snd.snd.fst.snd.fst.1) (r4.fst.snd.snd.fst.snd.fst.snd.1) (r4.fst.snd.snd.fst.snd.fst.snd.snd.1) (r4.fst.snd.snd.fst.snd.fst.snd.snd.2) (r4.fst.snd.snd.fst.snd.snd.1) (r4.fst.snd.snd.fst.snd.snd.snd.1) (r4.fst.snd.snd.fst.snd.snd.snd.snd.1) (r4.fst.snd.snd.fst.snd.snd.snd.snd.2) (r4.fst.snd.snd.snd.1) (r4.fst.snd.snd.snd.2) (p20) (p21) (p22) (p23) (p24)
                  else
                    bif (p1.getD p3.toNat (0 : Int)).tmod (6 : Int) == (3 : Int) then
                      (arena_Take (((p4, p5, ((p6, p7, p8, p9), (p10, p11, p12, p13), p14, p15, p16, p17), p18, p19), Go.RowKit.wrap64 ((Go.RowKit.wrap64 ((p1.getD p3.toNat (0 : Int)).tdiv (6 : Int))).tmod (3 : Int) + (1 : Int))))).bind fun r5 =>
                      bif r5.snd.2 != (0 : Int) then
                        tendrillaw07_ArenaPinned_3_L26 k (p0) (p1) (p2) (Go.RowKit.wrap64 (p3 + (1 : Int))) (p4) (p5) (p6) (p7) (p8) (p9) (p10) (p11) (p12) (p13) (p14) (p15) (p16) (p17) (p18) (p19) (p20) (p21) (p22) (p23) (p24)
                      else
                        (tag_Unpack (r5.snd.1)).bind fun r6 =>
                        bif r6.snd.2 != (0 : Int) then
                          some (Bool.false)
                        else
                          tendrillaw07_ArenaPinned_3_L116 k (p0) (Go.RowKit.wrap64 ((Go.RowKit.wrap64 ((p1.getD p3.toNat (0 : Int)).tdiv (6 : Int))).tmod (3 : Int) + (1 : Int))) (r5.snd.1) (r6.1) (p1) (p2) (p3) ((↑(3 : Nat) : Int)) ((0 : Int)) (r5.fst.1) (r5.fst.snd.1) (r5.fst.snd.snd.fst.fst.1) (r5.fst.snd.snd.fst.fst.snd.1) (r5.fst.snd.snd.fst.fst.snd.snd.1) (r5.fst.snd.snd.fst.fst.snd.snd.2) (r5.fst.snd.snd.fst.snd.fst.1) (r5.fst.snd.snd.fst.snd.fst.snd.1) (r5.fst.snd.snd.fst.snd.fst.snd.snd.1) (r5.fst.snd.snd.fst.snd.fst.snd.snd.2) (r5.fst.snd.snd.fst.snd.snd.1) (r5.fst.snd.snd.fst.snd.snd.snd.1) (r5.fst.snd.snd.fst.snd.snd.snd.snd.1) (r5.fst.snd.snd.fst.snd.snd.snd.snd.2) (r5.fst.snd.snd.snd.1) (r5.fst.snd.snd.snd.2) (p20) (p21) (p22) (p23) (p24)
                    else
                      bif (p1.getD p3.toNat (0 : Int)).tmod (6 : Int) == (4 : Int) then
                        (arena_Take (((p4, p5, ((p6, p7, p8, p9), (p10, p11, p12, p13), p14, p15, p16, p17), p18, p19), Go.RowKit.wrap64 ((Go.RowKit.wrap64 ((p1.getD p3.toNat (0 : Int)).tdiv (6 : Int))).tmod (3 : Int) + (1 : Int))))).bind fun r7 =>
                        bif r7.snd.2 != (0 : Int) then
                          tendrillaw07_ArenaPinned_3_L26 k (p0) (p1) (p2) (Go.RowKit.wrap64 (p3 + (1 : Int))) (p4) (p5) (p6) (p7) (p8) (p9) (p10) (p11) (p12) (p13) (p14) (p15) (p16) (p17) (p18) (p19) (p20) (p21) (p22) (p23) (p24)
                        else
                          (tag_Unpack (r7.snd.1)).bind fun r8 =>
                          bif r8.snd.2 != (0 : Int) then
                            some (Bool.false)
                          else
                            tendrillaw07_ArenaPinned_3_L116 k (p0) (Go.RowKit.wrap64 ((Go.RowKit.wrap64 ((p1.getD p3.toNat (0 : Int)).tdiv (6 : Int))).tmod (3 : Int) + (1 : Int))) (r7.snd.1) (r8.1) (p1) (p2) (p3) ((↑(3 : Nat) : Int)) ((0 : Int)) (r7.fst.1) (r7.fst.snd.1) (r7.fst.snd.snd.fst.fst.1) (r7.fst.snd.snd.fst.fst.snd.1) (r7.fst.snd.snd.fst.fst.snd.snd.1) (r7.fst.snd.snd.fst.fst.snd.snd.2) (r7.fst.snd.snd.fst.snd.fst.1) (r7.fst.snd.snd.fst.snd.fst.snd.1) (r7.fst.snd.snd.fst.snd.fst.snd.snd.1) (r7.fst.snd.snd.fst.snd.fst.snd.snd.2) (r7.fst.snd.snd.fst.snd.snd.1) (r7.fst.snd.snd.fst.snd.snd.snd.1) (r7.fst.snd.snd.fst.snd.snd.snd.snd.1) (r7.fst.snd.snd.fst.snd.snd.snd.snd.2) (r7.fst.snd.snd.snd.1) (r7.fst.snd.snd.snd.2) (p20) (p21) (p22) (p23) (p24)
                      else
                        bif (↑p21.length : Int) == (0 : Int) then
                          tendrillaw07_ArenaPinned_3_L26 k (p0) (p1) (p2) (Go.RowKit.wrap64 (p3 + (1 : Int))) (p4) (p5) (p6) (p7) (p8) (p9) (p10) (p11) (p12) (p13) (p14) (p15) (p16) (p17) (p18) (p19) (p20) (p21) (p22) (p23) (p24)
                        else
                          bif Decidable.decide ((↑p21.length : Int) = (0 : Int)) then
                            none
                          else
                            bif Decidable.decide ((0 : Int) ≤ (Go.RowKit.wrap64 ((p1.getD p3.toNat (0 : Int)).tdiv (6 : Int))).tmod (↑p21.length : Int)) then
                              bif Decidable.decide ((Go.RowKit.wrap64 ((p1.getD p3.toNat (0 : Int)).tdiv (6 : Int))).tmod (↑p21.length : Int) < (↑p21.length : Int)) then
                                bif Decidable.decide ((↑(0 : Nat) : Int) ≤ (Go.RowKit.wrap64 ((p1.getD p3.toNat (0 : Int)).tdiv (6 : Int))).tmod (↑p21.length : Int)) then
                                  bif Decidable.decide ((Go.RowKit.wrap64 ((p1.getD p3.toNat (0 : Int)).tdiv (6 : Int))).tmod (↑p21.length : Int) ≤ (↑p21.length : Int)) then
                                    bif Decidable.decide ((0 : Nat) + (List.drop (0 : Nat) (List.take ((Go.RowKit.wrap64 ((p1.getD p3.toNat (0 : Int)).tdiv (6 : Int))).tmod (↑p21.length : Int)).toNat p21)).length ≤ (1000000 : Nat)) then
                                      bif Decidable.decide ((↑(0 : Nat) : Int) ≤ Go.RowKit.wrap64 ((Go.RowKit.wrap64 ((p1.getD p3.toNat (0 : Int)).tdiv (6 : Int))).tmod (↑p21.length : Int) + (1 : Int))) then
                                        bif Decidable.decide (Go.RowKit.wrap64 ((Go.RowKit.wrap64 ((p1.getD p3.toNat (0 : Int)).tdiv (6 : Int))).tmod (↑p21.length : Int) + (1 : Int)) ≤ (↑p21.length : Int)) then
                                          bif Decidable.decide ((List.drop (0 : Nat) (List.take ((Go.RowKit.wrap64 ((p1.getD p3.toNat (0 : Int)).tdiv (6 : Int))).tmod (↑p21.length : Int)).toNat p21)).length + (List.drop (Go.RowKit.wrap64 ((Go.RowKit.wrap64 ((p1.getD p3.toNat (0 : Int)).tdiv (6 : Int))).tmod (↑p21.length : Int) + (1 : Int))).toNat (List.take p21.length p21)).length ≤ (1000000 : Nat)) then
                                            (arena_Retire (((p4, p5, ((p6, p7, p8, p9), (p10, p11, p12, p13), p14, p15, p16, p17), p18, p19), (p21.getD ((Go.RowKit.wrap64 (Int.tdiv (p1.getD p3.toNat (0 : Int)) (6 : Int))).tmod ((↑p21.length : Int) : Int)).toNat ((0 : Int), (0 : Int))).1, (p21.getD ((Go.RowKit.wrap64 (Int.tdiv (p1.getD p3.toNat (0 : Int)) (6 : Int))).tmod ((↑p21.length : Int) : Int)).toNat ((0 : Int), (0 : Int))).2))).bind fun r9 =>
                                            (tag_Unpack ((p21.getD ((Go.RowKit.wrap64 (Int.tdiv (p1.getD p3.toNat (0 : Int)) (6 : Int))).tmod ((↑p21.length : Int) : Int)).toNat ((0 : Int), (0 : Int))).2)).bind fun r10 =>
                                            bif r9.2 != (0 : Int) then
                                              some (Bool.false)
                                            else
                                              bif r10.snd.2 != (0 : Int) then
                                                some (Bool.false)
                                              else
                                                tendrillaw07_ArenaPinned_3_L62 k (p0) (r10.1) (p1) (p2) (p3) ((↑(3 : Nat) : Int)) ((0 : Int)) (r9.fst.1) (r9.fst.snd.1) (r9.fst.snd.snd.fst.fst.1) (r9.fst.snd.snd.fst.fst.snd.1) (r9.fst.snd.snd.fst.fst.snd.snd.1) (r9.fst.snd.snd.fst.fst.snd.snd.2) (r9.fst.snd.snd.fst.snd.fst.1) (r9.fst.snd.snd.fst.snd.fst.snd.1) (r9.fst.snd.snd.fst.snd.fst.snd.snd.1) (r9.fst.snd.snd.fst.snd.fst.snd.snd.2) (r9.fst.snd.snd.fst.snd.snd.1) (r9.fst.snd.snd.fst.snd.snd.snd.1) (r9.fst.snd.snd.fst.snd.snd.snd.snd.1) (r9.fst.snd.snd.fst.snd.snd.snd.snd.2) (r9.fst.snd.snd.snd.1) (r9.fst.snd.snd.snd.2) (p20) (List.drop (0 : Nat) (List.take ((Go.RowKit.wrap64 ((p1.getD p3.toNat (0 : Int)).tdiv (6 : Int))).tmod (↑p21.length : Int)).toNat p21) ++ List.drop (Go.RowKit.wrap64 ((Go.RowKit.wrap64 ((p1.getD p3.toNat (0 : Int)).tdiv (6 : Int))).tmod (↑p21.length : Int) + (1 : Int))).toNat (List.take p21.length p21)) ((p21.getD ((Go.RowKit.wrap64 (Int.tdiv (p1.getD p3.toNat (0 : Int)) (6 : Int))).tmod ((↑p21.length : Int) : Int)).toNat ((0 : Int), (0 : Int))).1) ((p21.getD ((Go.RowKit.wrap64 (Int.tdiv (p1.getD p3.toNat (0 : Int)) (6 : Int))).tmod ((↑p21.length : Int) : Int)).toNat ((0 : Int), (0 : Int))).2) (p22) (p23) (p24)
                                          else
                                            none
                                        else
                                          none
                                      else
                                        none
                                    else
                                      none
                                  else
                                    none
                                else
                                  none
                              else
                                none
                            else
                              none
        else
          none
      else
        none
    else
      (arena_Check ((p4, p5, ((p6, p7, p8, p9), (p10, p11, p12, p13), p14, p15, p16, p17), p18, p19))).bind fun r11 =>
      some (r11 == (0 : Int))
def tendrillaw07_ArenaPinned_3_L116 : Nat → (Int) → (Int) → (Int) → (Int) → (List Int) → (Int) → (Int) → (Int) → (Int) → (List Int) → (List Int) → (List Int) → (List Int) → (List Int) → (List Int) → (List Int) → (List Int) → (List Int) → (List Int) → (List Int) → (List Int) → (List Int) → (List Int) → (Int) → (List Int) → (List Bool) → (List (Int × Int)) → (List (Int × Int)) → (List (Int × Int)) → (List (Int × Int)) → Option (Bool)
  | 0, _, _, _, _, _, _, _, _, _, _, _, _, _, _, _, _, _, _, _, _, _, _, _, _, _, _, _, _, _, _ => none
  | k + 1, p0, p1, p2, p3, p4, p5, p6, p7, p8, p9, p10, p11, p12, p13, p14, p15, p16, p17, p18, p19, p20, p21, p22, p23, p24, p25, p26, p27, p28, p29 =>
    bif Decidable.decide (p8 < p7) then
      bif Decidable.decide (p8 = (↑(nat_lit 2) : Int)) then
        tendrillaw07_ArenaPinned_3_L122 k (p0) (p1) (p2) (p3) (p8) (p4) (p5) (p6) (p7) (p8) ((↑p29.length : Int)) ((0 : Int)) (p9) (p10) (p11) (p12) (p13) (p14) (p15) (p16) (p17) (p18) (p19) (p20) (p21) (p22) (p23) (p24) (p25) (p26) (p29) (p27) (p28)
      else
        bif Decidable.decide (p8 = (↑(nat_lit 1) : Int)) then
          tendrillaw07_ArenaPinned_3_L122x1 k (p0) (p1) (p2) (p3) (p8) (p4) (p5) (p6) (p7) (p8) ((↑p28.length : Int)) ((0 : Int)) (p9) (p10) (p11) (p12) (p13) (p14) (p15) (p16) (p17) (p18) (p19) (p20) (p21) (p22) (p23) (p24) (p25) (p26) (p28) (p27) (p29)
        else
          bif Decidable.decide (p8 = (↑(nat_lit 0) : Int)) then
            tendrillaw07_ArenaPinned_3_L122x2 k (p0) (p1) (p2) (p3) (p8) (p4) (p5) (p6) (p7) (p8) ((↑p27.length : Int)) ((0 : Int)) (p9) (p10) (p11) (p12) (p13) (p14) (p15) (p16) (p17) (p18) (p19) (p20) (p21) (p22) (p23) (p24) (p25) (p26) (p27) (p28) (p29)
          else
            none
    else
      bif Decidable.decide (p26.length + [(p1, p2)].length ≤ (1000000 : Nat)) then
        tendrillaw07_ArenaPinned_3_L26 k (p0) (p4) (p5) (Go.RowKit.wrap64 (p6 + (1 : Int))) (p9) (p10) (p11) (p12) (p13) (p14) (p15) (p16) (p17) (p18) (p19) (p20) (p21) (p22) (p23) (p24) (p25) (p26 ++ [(p1, p2)]) (p27) (p28) (p29)
      else
        none
def tendrillaw07_ArenaPinned_3_L62 : Nat → (Int) → (Int) → (List Int) → (Int) → (Int) → (Int) → (Int) → (List Int) → (List Int) → (List Int) → (List Int) → (List Int) → (List Int) → (List Int) → (List Int) → (List Int) → (List Int) → (List Int) → (List Int) → (List Int) → (List Int) → (Int) → (List Int) → (List Bool) → (List (Int × Int)) → (Int) → (Int) → (List (Int × Int)) → (List (Int × Int)) → (List (Int × Int)) → Option (Bool)
  | 0, _, _, _, _, _, _, _, _, _, _, _, _, _, _, _, _, _, _, _, _, _, _, _, _, _, _, _, _, _, _ => none
  | k + 1, p0, p1, p2, p3, p4, p5, p6, p7, p8, p9, p10, p11, p12, p13, p14, p15, p16, p17, p18, p19, p20, p21, p22, p23, p24, p25, p26, p27, p28, p29 =>
    bif Decidable.decide (p6 < p5) then
      bif Decidable.decide ((0 : Int) ≤ p6) then
        bif Decidable.decide (p6 < (↑p23.length : Int)) then
          bif p23.getD p6.toNat Bool.false then
            bif Decidable.decide (p6 = (↑(nat_lit 2) : Int)) then
              bif Decidable.decide (p29.length + [(p25, p1)].length ≤ (1000000 : Nat)) then
                bif Decidable.decide (p6 = (↑(nat_lit 2) : Int)) then
                  tendrillaw07_ArenaPinned_3_L62 k (p0) (p1) (p2) (p3) (p4) (p5) (Go.RowKit.wrap64 (p6 + (1 : Int))) (p7) (p8) (p9) (p10) (p11) (p12) (p13) (p14) (p15) (p16) (p17) (p18) (p19) (p20) (p21) (p22) (p23) (p24) (p25) (p26) (p27) (p28) (p29 ++ [(p25, p1)])
                else
                  bif Decidable.decide (p6 = (↑(nat_lit 1) : Int)) then
                    none
                  else
                    bif Decidable.decide (p6 = (↑(nat_lit 0) : Int)) then
                      none
                    else
                      none
              else
                none
            else
              bif Decidable.decide (p6 = (↑(nat_lit 1) : Int)) then
                bif Decidable.decide (p28.length + [(p25, p1)].length ≤ (1000000 : Nat)) then
                  bif Decidable.decide (p6 = (↑(nat_lit 2) : Int)) then
                    none
                  else
                    bif Decidable.decide (p6 = (↑(nat_lit 1) : Int)) then
                      tendrillaw07_ArenaPinned_3_L62 k (p0) (p1) (p2) (p3) (p4) (p5) (Go.RowKit.wrap64 (p6 + (1 : Int))) (p7) (p8) (p9) (p10) (p11) (p12) (p13) (p14) (p15) (p16) (p17) (p18) (p19) (p20) (p21) (p22) (p23) (p24) (p25) (p26) (p27) (p28 ++ [(p25, p1)]) (p29)
                    else
                      bif Decidable.decide (p6 = (↑(nat_lit 0) : Int)) then
                        none
                      else
                        none
                else
                  none
              else
                bif Decidable.decide (p6 = (↑(nat_lit 0) : Int)) then
                  bif Decidable.decide (p27.length + [(p25, p1)].length ≤ (1000000 : Nat)) then
                    bif Decidable.decide (p6 = (↑(nat_lit 2) : Int)) then
                      none
                    else
                      bif Decidable.decide (p6 = (↑(nat_lit 1) : Int)) then
                        none
                      else
                        bif Decidable.decide (p6 = (↑(nat_lit 0) : Int)) then
                          tendrillaw07_ArenaPinned_3_L62 k (p0) (p1) (p2) (p3) (p4) (p5) (Go.RowKit.wrap64 (p6 + (1 : Int))) (p7) (p8) (p9) (p10) (p11) (p12) (p13) (p14) (p15) (p16) (p17) (p18) (p19) (p20) (p21) (p22) (p23) (p24) (p25) (p26) (p27 ++ [(p25, p1)]) (p28) (p29)
                        else
                          none
                  else
                    none
                else
                  none
          else
            tendrillaw07_ArenaPinned_3_L62 k (p0) (p1) (p2) (p3) (p4) (p5) (Go.RowKit.wrap64 (p6 + (1 : Int))) (p7) (p8) (p9) (p10) (p11) (p12) (p13) (p14) (p15) (p16) (p17) (p18) (p19) (p20) (p21) (p22) (p23) (p24) (p25) (p26) (p27) (p28) (p29)
        else
          none
      else
        none
    else
      tendrillaw07_ArenaPinned_3_L26 k (p0) (p2) (p3) (Go.RowKit.wrap64 (p4 + (1 : Int))) (p7) (p8) (p9) (p10) (p11) (p12) (p13) (p14) (p15) (p16) (p17) (p18) (p19) (p20) (p21) (p22) (p23) (p24) (p27) (p28) (p29)
def tendrillaw07_ArenaPinned_3_L122 : Nat → (Int) → (Int) → (Int) → (Int) → (Int) → (List Int) → (Int) → (Int) → (Int) → (Int) → (Int) → (Int) → (List Int) → (List Int) → (List Int) → (List Int) → (List Int) → (List Int) → (List Int) → (List Int) → (List Int) → (List Int) → (List Int) → (List Int) → (List Int) → (List Int) → (Int) → (List Int) → (List Bool) → (List (Int × Int)) → (List (Int × Int)) → (List (Int × Int)) → (List (Int × Int)) → Option (Bool)
  | 0, _, _, _, _, _, _, _, _, _, _, _, _, _, _, _, _, _, _, _, _, _, _, _, _, _, _, _, _, _, _, _, _, _ => none
  | k + 1, p0, p1, p2, p3, p4, p5, p6, p7, p8, p9, p10, p11, p12, p13, p14, p15, p16, p17, p18, p19, p20, p21, p22, p23, p24, p25, p26, p27, p28, p29, p30, p31, p32 =>
    bif Decidable.decide (p11 < p10) then
      bif Decidable.decide ((0 : Int) ≤ p11) then
        bif Decidable.decide (p11 < (↑p30.length : Int)) then
          bif Decidable.decide ((0 : Int) ≤ p4) then
            bif Decidable.decide (p4 < (↑p28.length : Int)) then
              bif p28.getD p4.toNat Bool.false then
                bif (p30.getD p11.toNat ((0 : Int), (0 : Int))).1 == p1 && ((p30.getD p11.toNat ((0 : Int), (0 : Int))).2 == p3 && Bool.true) then
                  some (Bool.false)
                else
                  tendrillaw07_ArenaPinned_3_L122 k (p0) (p1) (p2) (p3) (p4) (p5) (p6) (p7) (p8) (p9) (p10) (Go.RowKit.wrap64 (p11 + (1 : Int))) (p12) (p13) (p14) (p15) (p16) (p17) (p18) (p19) (p20) (p21) (p22) (p23) (p24) (p25) (p26) (p27) (p28) (p29) (p30) (p31) (p32)
              else
                tendrillaw07_ArenaPinned_3_L122 k (p0) (p1) (p2) (p3) (p4) (p5) (p6) (p7) (p8) (p9) (p10) (Go.RowKit.wrap64 (p11 + (1 : Int))) (p12) (p13) (p14) (p15) (p16) (p17) (p18) (p19) (p20) (p21) (p22) (p23) (p24) (p25) (p26) (p27) (p28) (p29) (p30) (p31) (p32)
            else
              none
          else
            none
        else
          none
      else
        none
    else
      tendrillaw07_ArenaPinned_3_L116 k (p0) (p1) (p2) (p3) (p5) (p6) (p7) (p8) (Go.RowKit.wrap64 (p9 + (1 : Int))) (p12) (p13) (p14) (p15) (p16) (p17) (p18) (p19) (p20) (p21) (p22) (p23) (p24) (p25) (p26) (p27) (p28) (p29) (p31) (p32) (p30)
def tendrillaw07_ArenaPinned_3_L122x1 : Nat → (Int) → (Int) → (Int) → (Int) → (Int) → (List Int) → (Int) → (Int) → (Int) → (Int) → (Int) → (Int) → (List Int) → (List Int) → (List Int) → (List Int) → (List Int) → (List Int) → (List Int) → (List Int) → (List Int) → (List Int) → (List Int) → (List Int) → (List Int) → (List Int) → (Int) → (List Int) → (List Bool) → (List (Int × Int)) → (List (Int × Int)) → (List (Int × Int)) → (List (Int × Int)) → Option (Bool)
  | 0, _, _, _, _, _, _, _, _, _, _, _, _, _, _, _, _, _, _, _, _, _, _, _, _, _, _, _, _, _, _, _, _, _ => none
  | k + 1, p0, p1, p2, p3, p4, p5, p6, p7, p8, p9, p10, p11, p12, p13, p14, p15, p16, p17, p18, p19, p20, p21, p22, p23, p24, p25, p26, p27, p28, p29, p30, p31, p32 =>
    bif Decidable.decide (p11 < p10) then
      bif Decidable.decide ((0 : Int) ≤ p11) then
        bif Decidable.decide (p11 < (↑p30.length : Int)) then
          bif Decidable.decide ((0 : Int) ≤ p4) then
            bif Decidable.decide (p4 < (↑p28.length : Int)) then
              bif p28.getD p4.toNat Bool.false then
                bif (p30.getD p11.toNat ((0 : Int), (0 : Int))).1 == p1 && ((p30.getD p11.toNat ((0 : Int), (0 : Int))).2 == p3 && Bool.true) then
                  some (Bool.false)
                else
                  tendrillaw07_ArenaPinned_3_L122x1 k (p0) (p1) (p2) (p3) (p4) (p5) (p6) (p7) (p8) (p9) (p10) (Go.RowKit.wrap64 (p11 + (1 : Int))) (p12) (p13) (p14) (p15) (p16) (p17) (p18) (p19) (p20) (p21) (p22) (p23) (p24) (p25) (p26) (p27) (p28) (p29) (p30) (p31) (p32)
              else
                tendrillaw07_ArenaPinned_3_L122x1 k (p0) (p1) (p2) (p3) (p4) (p5) (p6) (p7) (p8) (p9) (p10) (Go.RowKit.wrap64 (p11 + (1 : Int))) (p12) (p13) (p14) (p15) (p16) (p17) (p18) (p19) (p20) (p21) (p22) (p23) (p24) (p25) (p26) (p27) (p28) (p29) (p30) (p31) (p32)
            else
              none
          else
            none
        else
          none
      else
        none
    else
      tendrillaw07_ArenaPinned_3_L116 k (p0) (p1) (p2) (p3) (p5) (p6) (p7) (p8) (Go.RowKit.wrap64 (p9 + (1 : Int))) (p12) (p13) (p14) (p15) (p16) (p17) (p18) (p19) (p20) (p21) (p22) (p23) (p24) (p25) (p26) (p27) (p28) (p29) (p31) (p30) (p32)
def tendrillaw07_ArenaPinned_3_L122x2 : Nat → (Int) → (Int) → (Int) → (Int) → (Int) → (List Int) → (Int) → (Int) → (Int) → (Int) → (Int) → (Int) → (List Int) → (List Int) → (List Int) → (List Int) → (List Int) → (List Int) → (List Int) → (List Int) → (List Int) → (List Int) → (List Int) → (List Int) → (List Int) → (List Int) → (Int) → (List Int) → (List Bool) → (List (Int × Int)) → (List (Int × Int)) → (List (Int × Int)) → (List (Int × Int)) → Option (Bool)
  | 0, _, _, _, _, _, _, _, _, _, _, _, _, _, _, _, _, _, _, _, _, _, _, _, _, _, _, _, _, _, _, _, _, _ => none
  | k + 1, p0, p1, p2, p3, p4, p5, p6, p7, p8, p9, p10, p11, p12, p13, p14, p15, p16, p17, p18, p19, p20, p21, p22, p23, p24, p25, p26, p27, p28, p29, p30, p31, p32 =>
    bif Decidable.decide (p11 < p10) then
      bif Decidable.decide ((0 : Int) ≤ p11) then
        bif Decidable.decide (p11 < (↑p30.length : Int)) then
          bif Decidable.decide ((0 : Int) ≤ p4) then
            bif Decidable.decide (p4 < (↑p28.length : Int)) then
              bif p28.getD p4.toNat Bool.false then
                bif (p30.getD p11.toNat ((0 : Int), (0 : Int))).1 == p1 && ((p30.getD p11.toNat ((0 : Int), (0 : Int))).2 == p3 && Bool.true) then
                  some (Bool.false)
                else
                  tendrillaw07_ArenaPinned_3_L122x2 k (p0) (p1) (p2) (p3) (p4) (p5) (p6) (p7) (p8) (p9) (p10) (Go.RowKit.wrap64 (p11 + (1 : Int))) (p12) (p13) (p14) (p15) (p16) (p17) (p18) (p19) (p20) (p21) (p22) (p23) (p24) (p25) (p26) (p27) (p28) (p29) (p30) (p31) (p32)
              else
                tendrillaw07_ArenaPinned_3_L122x2 k (p0) (p1) (p2) (p3) (p4) (p5) (p6) (p7) (p8) (p9) (p10) (Go.RowKit.wrap64 (p11 + (1 : Int))) (p12) (p13) (p14) (p15) (p16) (p17) (p18) (p19) (p20) (p21) (p22) (p23) (p24) (p25) (p26) (p27) (p28) (p29) (p30) (p31) (p32)
            else
              none
          else
            none
        else
          none
      else
        none
    else
      tendrillaw07_ArenaPinned_3_L116 k (p0) (p1) (p2) (p3) (p5) (p6) (p7) (p8) (Go.RowKit.wrap64 (p9 + (1 : Int))) (p12) (p13) (p14) (p15) (p16) (p17) (p18) (p19) (p20) (p21) (p22) (p23) (p24) (p25) (p26) (p27) (p28) (p29) (p30) (p31) (p32)
end
def tendrillaw07_ArenaPinned_3_K (K : Nat) (x : (Int × Int × Int × Int × Int) × List Int) : Option (Bool) :=
  (tendrillaw07_live (())).bind fun r0 =>
  bif !r0 then
    some (Bool.false)
  else
    bif Decidable.decide ((120 : Int) < (↑(List.length x.2) : Int)) then
      some (Bool.true)
    else
      (arena_New (((x.fst.1, x.fst.snd.1, x.fst.snd.snd.1, x.fst.snd.snd.snd.1, x.fst.snd.snd.snd.2), (3 : Int)))).bind fun r1 =>
      bif r1.2 != (0 : Int) then
        some ((↑(List.length r1.fst.snd.snd.snd.2) : Int) == (0 : Int))
      else
        tendrillaw07_ArenaPinned_3_L26 K ((3 : Int)) (x.2) ((↑(List.length x.2) : Int)) ((0 : Int)) (r1.fst.1) (r1.fst.snd.1) (r1.fst.snd.snd.fst.fst.1) (r1.fst.snd.snd.fst.fst.snd.1) (r1.fst.snd.snd.fst.fst.snd.snd.1) (r1.fst.snd.snd.fst.fst.snd.snd.2) (r1.fst.snd.snd.fst.snd.fst.1) (r1.fst.snd.snd.fst.snd.fst.snd.1) (r1.fst.snd.snd.fst.snd.fst.snd.snd.1) (r1.fst.snd.snd.fst.snd.fst.snd.snd.2) (r1.fst.snd.snd.fst.snd.snd.1) (r1.fst.snd.snd.fst.snd.snd.snd.1) (r1.fst.snd.snd.fst.snd.snd.snd.snd.1) (r1.fst.snd.snd.fst.snd.snd.snd.snd.2) (r1.fst.snd.snd.snd.1) (r1.fst.snd.snd.snd.2) (List.replicate (Int.toNat (3 : Int)) Bool.false) ([]) ([]) ([]) ([])
def tendrillaw07_ArenaPinned_3 (x : (Int × (Int × (Int × (Int × Int)))) × (List Int)) : Option (Bool) := tendrillaw07_ArenaPinned_3_K 2000000 x
def tendrillaw07_ArenaPinned_3_S : Sig := ⟨[⟨true, (.pair .int (.pair .int (.pair .int (.pair .int .int))))⟩, ⟨false, (.sl .int)⟩], [⟨false, .bool⟩], false, tendrillaw07_ArenaPinned_3⟩
/-! tendril/tendrillaw07.ArenaPinned -/
mutual
def tendrillaw07_ArenaPinned_4_L26 : Nat → (Int) → (List Int) → (Int) → (Int) → (List Int) → (List Int) → (List Int) → (List Int) → (List Int) → (List Int) → (List Int) → (List Int) → (List Int) → (List Int) → (List Int) → (List Int) → (List Int) → (List Int) → (Int) → (List Int) → (List Bool) → (List (Int × Int)) → (List (Int × Int)) → (List (Int × Int)) → (List (Int × Int)) → (List (Int × Int)) → Option (Bool)
  | 0, _, _, _, _, _, _, _, _, _, _, _, _, _, _, _, _, _, _, _, _, _, _, _, _, _, _ => none
  | k + 1, p0, p1, p2, p3, p4, p5, p6, p7, p8, p9, p10, p11, p12, p13, p14, p15, p16, p17, p18, p19, p20, p21, p22, p23, p24, p25 =>
    bif Decidable.decide (p3 < p2) then
      bif Decidable.decide ((0 : Int) ≤ p3) then
        bif Decidable.decide (p3 < (↑p1.length : Int)) then
          bif Decidable.decide (p1.getD p3.toNat (0 : Int) < (0 : Int)) then
            some (Bool.true)
          else
            bif Decidable.decide (p0 = (0 : Int)) then
              none
            else
              bif (p1.getD p3.toNat (0 : Int)).tmod (6 : Int) == (0 : Int) then
                (arena_Pin (((p4, p5, ((p6, p7, p8, p9), (p10, p11, p12, p13), p14, p15, p16, p17), p18, p19), (Go.RowKit.wrap64 ((p1.getD p3.toNat (0 : Int)).tdiv (6 : Int))).tmod p0))).bind fun r2 =>
                bif r2.2 == (0 : Int) then
                  bif Decidable.decide ((0 : Int) ≤ (Go.RowKit.wrap64 ((p1.getD p3.toNat (0 : Int)).tdiv (6 : Int))).tmod p0) then
                    bif Decidable.decide ((Go.RowKit.wrap64 ((p1.getD p3.toNat (0 : Int)).tdiv (6 : Int))).tmod p0 < (↑p20.length : Int)) then
                      bif Decidable.decide ((Go.RowKit.wrap64 ((p1.getD p3.toNat (0 : Int)).tdiv (6 : Int))).tmod p0 = (↑(nat_lit 3) : Int)) then
                        tendrillaw07_ArenaPinned_4_L26 k (p0) (p1) (p2) (Go.RowKit.wrap64 (p3 + (1 : Int))) (r2.fst.1) (r2.fst.snd.1) (r2.fst.snd.snd.fst.fst.1) (r2.fst.snd.snd.fst.fst.snd.1) (r2.fst.snd.snd.fst.fst.snd.snd.1) (r2.fst.snd.snd.fst.fst.snd.snd.2) (r2.fst.snd.snd.fst.snd.fst.1) (r2.fst.snd.snd.fst.snd.fst.snd.1) (r2.fst.snd.snd.fst.snd.fst.snd.snd.1) (r2.fst.snd.snd.fst.snd.fst.snd.snd.2) (r2.fst.snd.snd.fst.snd.snd.1) (r2.fst.snd.snd.fst.snd.snd.snd.1) (r2.fst.snd.snd.fst.snd.snd.snd.snd.1) (r2.fst.snd.snd.fst.snd.snd.snd.snd.2) (r2.fst.snd.snd.snd.1) (r2.fst.snd.snd.snd.2) (p20.set ((Go.RowKit.wrap64 ((p1.getD p3.toNat (0 : Int)).tdiv (6 : Int))).tmod p0).toNat Bool.true) (p21) (p22) (p23) (p24) ([])
                      else
                        bif Decidable.decide ((Go.RowKit.wrap64 ((p1.getD p3.toNat (0 : Int)).tdiv (6 : Int))).tmod p0 = (↑(nat_lit 2) : Int)) then
                          tendrillaw07_ArenaPinned_4_L26 k (p0) (p1) (p2) (Go.RowKit.wrap64 (p3 + (1 : Int))) (r2.fst.1) (r2.fst.snd.1) (r2.fst.snd.snd.fst.fst.1) (r2.fst.snd.snd.fst.fst.snd.1) (r2.fst.snd.snd.fst.fst.snd.snd.1) (r2.fst.snd.snd.fst.fst.snd.snd.2) (r2.fst.snd.snd.fst.snd.fst.1) (r2.fst.snd.snd.fst.snd.fst.snd.1) (r2.fst.snd.snd.fst.snd.fst.snd.snd.1) (r2.fst.snd.snd.fst.snd.fst.snd.snd.2) (r2.fst.snd.snd.fst.snd.snd.1) (r2.fst.snd.snd.fst.snd.snd.snd.1) (r2.fst.snd.snd.fst.snd.snd.snd.snd.1) (r2.fst.snd.snd.fst.snd.snd.snd.snd.2) (r2.fst.snd.snd.snd.1) (r2.fst.snd.snd.snd.2) (p20.set ((Go.RowKit.wrap64 ((p1.getD p3.toNat (0 : Int)).tdiv (6 : Int))).tmod p0).toNat Bool.true) (p21) (p22) (p23) ([]) (p25)
                        else
                          bif Decidable.decide ((Go.RowKit.wrap64 ((p1.getD p3.toNat (0 : Int)).tdiv (6 : Int))).tmod p0 = (↑(nat_lit 1) : Int)) then
                            tendrillaw07_ArenaPinned_4_L26 k (p0) (p1) (p2) (Go.RowKit.wrap64 (p3 + (1 : Int))) (r2.fst.1) (r2.fst.snd.1) (r2.fst.snd.snd.fst.fst.1) (r2.fst.snd.snd.fst.fst.snd.1) (r2.fst.snd.snd.fst.fst.snd.snd.1) (r2.fst.snd.snd.fst.fst.snd.snd.2) (r2.fst.snd.snd.fst.snd.fst.1) (r2.fst.snd.snd.fst.snd.fst.snd.1) (r2.fst.snd.snd.fst.snd.fst.snd.snd.1) (r2.fst.snd.snd.fst.snd.fst.snd.snd.2) (r2.fst.snd.snd.fst.snd.snd.1) (r2.fst.snd.snd.fst.snd.snd.snd.1) (r2.fst.snd.snd.fst.snd.snd.snd.snd.1) (r2.fst.snd.snd.fst.snd.snd.snd.snd.2) (r2.fst.snd.snd.snd.1) (r2.fst.snd.snd.snd.2) (p20.set ((Go.RowKit.wrap64 ((p1.getD p3.toNat (0 : Int)).tdiv (6 : Int))).tmod p0).toNat Bool.true) (p21) (p22) ([]) (p24) (p25)
                          else
                            bif Decidable.decide ((Go.RowKit.wrap64 ((p1.getD p3.toNat (0 : Int)).tdiv (6 : Int))).tmod p0 = (↑(nat_lit 0) : Int)) then
                              tendrillaw07_ArenaPinned_4_L26 k (p0) (p1) (p2) (Go.RowKit.wrap64 (p3 + (1 : Int))) (r2.fst.1) (r2.fst.snd.1) (r2.fst.snd.snd.fst.fst.1) (r2.fst.snd.snd.fst.fst.snd.1) (r2.fst.snd.snd.fst.fst.snd.snd.1) (r2.fst.snd.snd.fst.fst.snd.snd.2) (r2.fst.snd.snd.fst.snd.fst.1) (r2.fst.snd.snd.fst.snd.fst.snd.1) (r2.fst.snd.snd.fst.snd.fst.snd.snd.1) (r2.fst.snd.snd.fst.snd.fst.snd.snd.2) (r2.fst.snd.snd.fst.snd.snd.1) (r2.fst.snd.snd.fst.snd.snd.snd.1) (r2.fst.snd.snd.fst.snd.snd.snd.snd.1) (r2.fst.snd.snd.fst.snd.snd.snd.snd.2) (r2.fst.snd.snd.snd.1) (r2.fst.snd.snd.snd.2) (p20.set ((Go.RowKit.wrap64 ((p1.getD p3.toNat (0 : Int)).tdiv (6 : Int))).tmod p0).toNat Bool.true) (p21) ([]) (p23) (p24) (p25)
                            else
                              none
                    else
                      none
                  else
                    none
                else
                  tendrillaw07_ArenaPinned_4_L26 k (p0) (p1) (p2) (Go.RowKit.wrap64 (p3 + (1 : Int))) (p4) (p5) (p6) (p7) (p8) (p9) (p10) (p11) (p12) (p13) (p14) (p15) (p16) (p17) (p18) (p19) (p20) (p21) (p22) (p23) (p24) (p25)
              else
                bif (p1.getD p3.toNat (0 : Int)).tmod (6 : Int) == (1 : Int) then
                  (arena_End (((p4, p5, ((p6, p7, p8, p9), (p10, p11, p12, p13), p14, p15, p16, p17), p18, p19), (Go.RowKit.wrap64 ((p1.getD p3.toNat (0 : Int)).tdiv (6 : Int))).tmod p0))).bind fun r3 =>
                  bif r3.2 == (0 : Int) then
                    bif Decidable.decide ((0 : Int) ≤ (Go.RowKit.wrap64 ((p1.getD p3.toNat (0 : Int)).tdiv (6 : Int))).tmod p0) then
                      bif Decidable.decide ((Go.RowKit.wrap64 ((p1.getD p3.toNat (0 : Int)).tdiv (6 : Int))).tmod p0 < (↑p20.length : Int)) then
                        tendrillaw07_ArenaPinned_4_L26 k (p0) (p1) (p2) (Go.RowKit.wrap64 (p3 + (1 : Int))) (r3.fst.1) (r3.fst.snd.1) (r3.fst.snd.snd.fst.fst.1) (r3.fst.snd.snd.fst.fst.snd.1) (r3.fst.snd.snd.fst.fst.snd.snd.1) (r3.fst.snd.snd.fst.fst.snd.snd.2) (r3.fst.snd.snd.fst.snd.fst.1) (r3.fst.snd.snd.fst.snd.fst.snd.1) (r3.fst.snd.snd.fst.snd.fst.snd.snd.1) (r3.fst.snd.snd.fst.snd.fst.snd.snd.2) (r3.fst.snd.snd.fst.snd.snd.1) (r3.fst.snd.snd.fst.snd.snd.snd.1) (r3.fst.snd.snd.fst.snd.snd.snd.snd.1) (r3.fst.snd.snd.fst.snd.snd.snd.snd.2) (r3.fst.snd.snd.snd.1) (r3.fst.snd.snd.snd.2) (p20.set ((Go.RowKit.wrap64 ((p1.getD p3.toNat (0 : Int)).tdiv (6 : Int))).tmod p0).toNat Bool.false) (p21) (p22) (p23) (p24) (p25)
                      else
                        none
                    else
                      none
                  else
                    tendrillaw07_ArenaPinned_4_L26 k (p0) (p1) (p2) (Go.RowKit.wrap64 (p3 + (1 : Int))) (p4) (p5) (p6) (p7) (p8) (p9) (p10) (p11) (p12) (p13) (p14) (p15) (p16) (p17) (p18) (p19) (p20) (p21) (p22) (p23) (p24) (p25)
                else
                  bif (p1.getD p3.toNat (0 : Int)).tmod (6 : Int) == (2 : Int) then
                    (arena_Turn ((p4, p5, ((p6, p7, p8, p9), (p10, p11, p12, p13), p14, p15, p16, p17), p18, p19))).bind fun r4 =>
                    tendrillaw07_ArenaPinned_4_L26 k (p0) (p1) (p2) (Go.RowKit.wrap64 (p3 + (1 : Int))) (r4.fst.1) (r4.fst.snd.1) (r4.fst.snd.snd.fst.fst.1) (r4.fst.snd.snd.fst.fst.snd.1) (r4.fst.snd.snd.fst.fst.snd.snd.1) (r4.fst.snd.snd.fst.fst.snd.snd.2) (r4.fst.snd.snd.fst.snd.fst.1) (r4.fst.snd.snd.fst.snd.fst.snd.1) (r4.fst.snd.snd.fst.snd.fst.snd.snd.1) (r4.fst.snd.snd.fst.snd.fst.snd.snd.2) (r4.fst.snd.snd.fst.snd.snd.1) (r4.fst.snd.snd.fst.snd.snd.snd.1) (r4.fst.snd.snd.fst.snd.snd.snd.snd.1) (r4.fst.snd.snd.fst.snd.snd.snd.snd.2) (r4.fst.snd.snd.snd.1) (r4.fst.snd.snd.snd.2) (p20) (p21) (p22) (p23) (p24) (p25)
                  else
                    bif (p1.getD p3.toNat (0 : Int)).tmod (6 : Int) == (3 : Int) then
                      (arena_Take (((p4, p5, ((p6, p7, p8, p9), (p10, p11, p12, p13), p14, p15, p16, p17), p18, p19), Go.RowKit.wrap64 ((Go.RowKit.wrap64 ((p1.getD p3.toNat (0 : Int)).tdiv (6 : Int))).tmod (3 : Int) + (1 : Int))))).bind fun r5 =>
                      bif r5.snd.2 != (0 : Int) then
                        tendrillaw07_ArenaPinned_4_L26 k (p0) (p1) (p2) (Go.RowKit.wrap64 (p3 + (1 : Int))) (p4) (p5) (p6) (p7) (p8) (p9) (p10) (p11) (p12) (p13) (p14) (p15) (p16) (p17) (p18) (p19) (p20) (p21) (p22) (p23) (p24) (p25)
                      else
                        (tag_Unpack (r5.snd.1)).bind fun r6 =>
                        bif r6.snd.2 != (0 : Int) then
                          some (Bool.false)
                        else
                          tendrillaw07_ArenaPinned_4_L116 k (p0) (Go.RowKit.wrap64 ((Go.RowKit.wrap64 ((p1.getD p3.toNat (0 : Int)).tdiv (6 : Int))).tmod (3 : Int) + (1 : Int))) (r5.snd.1) (r6.1) (p1) (p2) (p3) ((↑(4 : Nat) : Int)) ((0 : Int)) (r5.fst.1) (r5.fst.snd.1) (r5.fst.snd.snd.fst.fst.1) (r5.fst.snd.snd.fst.fst.snd.1) (r5.fst.snd.snd.fst.fst.snd.snd.1) (r5.fst.snd.snd.fst.fst.snd.snd.2) (r5.fst.snd.snd.fst.snd.fst.1) (r5.fst.snd.snd.fst.snd.fst.snd.1) (r5.fst.snd.snd.fst.snd.fst.snd.snd.1) (r5.fst.snd.snd.fst.snd.fst.snd.snd.2) (r5.fst.snd.snd.fst.snd.snd.1) (r5.fst.snd.snd.fst.snd.snd.snd.1) (r5.fst.snd.snd.fst.snd.snd.snd.snd.1) (r5.fst.snd.snd.fst.snd.snd.snd.snd.2) (r5.fst.snd.snd.snd.1) (r5.fst.snd.snd.snd.2) (p20) (p21) (p22) (p23) (p24) (p25)
                    else
                      bif (p1.getD p3.toNat (0 : Int)).tmod (6 : Int) == (4 : Int) then
                        (arena_Take (((p4, p5, ((p6, p7, p8, p9), (p10, p11, p12, p13), p14, p15, p16, p17), p18, p19), Go.RowKit.wrap64 ((Go.RowKit.wrap64 ((p1.getD p3.toNat (0 : Int)).tdiv (6 : Int))).tmod (3 : Int) + (1 : Int))))).bind fun r7 =>
                        bif r7.snd.2 != (0 : Int) then
                          tendrillaw07_ArenaPinned_4_L26 k (p0) (p1) (p2) (Go.RowKit.wrap64 (p3 + (1 : Int))) (p4) (p5) (p6) (p7) (p8) (p9) (p10) (p11) (p12) (p13) (p14) (p15) (p16) (p17) (p18) (p19) (p20) (p21) (p22) (p23) (p24) (p25)
                        else
                          (tag_Unpack (r7.snd.1)).bind fun r8 =>
                          bif r8.snd.2 != (0 : Int) then
                            some (Bool.false)
                          else
                            tendrillaw07_ArenaPinned_4_L116 k (p0) (Go.RowKit.wrap64 ((Go.RowKit.wrap64 ((p1.getD p3.toNat (0 : Int)).tdiv (6 : Int))).tmod (3 : Int) + (1 : Int))) (r7.snd.1) (r8.1) (p1) (p2) (p3) ((↑(4 : Nat) : Int)) ((0 : Int)) (r7.fst.1) (r7.fst.snd.1) (r7.fst.snd.snd.fst.fst.1) (r7.fst.snd.snd.fst.fst.snd.1) (r7.fst.snd.snd.fst.fst.snd.snd.1) (r7.fst.snd.snd.fst.fst.snd.snd.2) (r7.fst.snd.snd.fst.snd.fst.1) (r7.fst.snd.snd.fst.snd.fst.snd.1) (r7.fst.snd.snd.fst.snd.fst.snd.snd.1) (r7.fst.snd.snd.fst.snd.fst.snd.snd.2) (r7.fst.snd.snd.fst.snd.snd.1) (r7.fst.snd.snd.fst.snd.snd.snd.1) (r7.fst.snd.snd.fst.snd.snd.snd.snd.1) (r7.fst.snd.snd.fst.snd.snd.snd.snd.2) (r7.fst.snd.snd.snd.1) (r7.fst.snd.snd.snd.2) (p20) (p21) (p22) (p23) (p24) (p25)
                      else
                        bif (↑p21.length : Int) == (0 : Int) then
                          tendrillaw07_ArenaPinned_4_L26 k (p0) (p1) (p2) (Go.RowKit.wrap64 (p3 + (1 : Int))) (p4) (p5) (p6) (p7) (p8) (p9) (p10) (p11) (p12) (p13) (p14) (p15) (p16) (p17) (p18) (p19) (p20) (p21) (p22) (p23) (p24) (p25)
                        else
                          bif Decidable.decide ((↑p21.length : Int) = (0 : Int)) then
                            none
                          else
                            bif Decidable.decide ((0 : Int) ≤ (Go.RowKit.wrap64 ((p1.getD p3.toNat (0 : Int)).tdiv (6 : Int))).tmod (↑p21.length : Int)) then
                              bif Decidable.decide ((Go.RowKit.wrap64 ((p1.getD p3.toNat (0 : Int)).tdiv (6 : Int))).tmod (↑p21.length : Int) < (↑p21.length : Int)) then
                                bif Decidable.decide ((↑(0 : Nat) : Int) ≤ (Go.RowKit.wrap64 ((p1.getD p3.toNat (0 : Int)).tdiv (6 : Int))).tmod (↑p21.length : Int)) then
                                  bif Decidable.decide ((Go.RowKit.wrap64 ((p1.getD p3.toNat (0 : Int)).tdiv (6 : Int))).tmod (↑p21.length : Int) ≤ (↑p21.length : Int)) then
                                    bif Decidable.decide ((0 : Nat) + (List.drop (0 : Nat) (List.take ((Go.RowKit.wrap64 ((p1.getD p3.toNat (0 : Int)).tdiv (6 : Int))).tmod (↑p21.length : Int)).toNat p21)).length ≤ (1000000 : Nat)) then
                                      bif Decidable.decide ((↑(0 : Nat) : Int) ≤ Go.RowKit.wrap64 ((Go.RowKit.wrap64 ((p1.getD p3.toNat (0 : Int)).tdiv (6 : Int))).tmod (↑p21.length : Int) + (1 : Int))) then
                                        bif Decidable.decide (Go.RowKit.wrap64 ((Go.RowKit.wrap64 ((p1.getD p3.toNat (0 : Int)).tdiv (6 : Int))).tmod (↑p21.length : Int) + (1 : Int)) ≤ (↑p21.length : Int)) then
                                          bif Decidable.decide ((List.drop (0 : Nat) (List.take ((Go.RowKit.wrap64 ((p1.getD p3.toNat (0 : Int)).tdiv (6 : Int))).tmod (↑p21.length : Int)).toNat p21)).length + (List.drop (Go.RowKit.wrap64 ((Go.RowKit.wrap64 ((p1.getD p3.toNat (0 : Int)).tdiv (6 : Int))).tmod (↑p21.length : Int) + (1 : Int))).toNat (List.take p21.length p21)).length ≤ (1000000 : Nat)) then
                                            (arena_Retire (((p4, p5, ((p6, p7, p8, p9), (p10, p11, p12, p13), p14, p15, p16, p17), p18, p19), (p21.getD ((Go.RowKit.wrap64 (Int.tdiv (p1.getD p3.toNat (0 : Int)) (6 : Int))).tmod ((↑p21.length : Int) : Int)).toNat ((0 : Int), (0 : Int))).1, (p21.getD ((Go.RowKit.wrap64 (Int.tdiv (p1.getD p3.toNat (0 : Int)) (6 : Int))).tmod ((↑p21.length : Int) : Int)).toNat ((0 : Int), (0 : Int))).2))).bind fun r9 =>
                                            (tag_Unpack ((p21.getD ((Go.RowKit.wrap64 (Int.tdiv (p1.getD p3.toNat (0 : Int)) (6 : Int))).tmod ((↑p21.length : Int) : Int)).toNat ((0 : Int), (0 : Int))).2)).bind fun r10 =>
                                            bif r9.2 != (0 : Int) then
                                              some (Bool.false)
                                            else
                                              bif r10.snd.2 != (0 : Int) then
                                                some (Bool.false)
                                              else
                                                tendrillaw07_ArenaPinned_4_L62 k (p0) (r10.1) (p1) (p2) (p3) ((↑(4 : Nat) : Int)) ((0 : Int)) (r9.fst.1) (r9.fst.snd.1) (r9.fst.snd.snd.fst.fst.1) (r9.fst.snd.snd.fst.fst.snd.1) (r9.fst.snd.snd.fst.fst.snd.snd.1) (r9.fst.snd.snd.fst.fst.snd.snd.2) (r9.fst.snd.snd.fst.snd.fst.1) (r9.fst.snd.snd.fst.snd.fst.snd.1) (r9.fst.snd.snd.fst.snd.fst.snd.snd.1) (r9.fst.snd.snd.fst.snd.fst.snd.snd.2) (r9.fst.snd.snd.fst.snd.snd.1) (r9.fst.snd.snd.fst.snd.snd.snd.1) (r9.fst.snd.snd.fst.snd.snd.snd.snd.1) (r9.fst.snd.snd.fst.snd.snd.snd.snd.2) (r9.fst.snd.snd.snd.1) (r9.fst.snd.snd.snd.2) (p20) (List.drop (0 : Nat) (List.take ((Go.RowKit.wrap64 ((p1.getD p3.toNat (0 : Int)).tdiv (6 : Int))).tmod (↑p21.length : Int)).toNat p21) ++ List.drop (Go.RowKit.wrap64 ((Go.RowKit.wrap64 ((p1.getD p3.toNat (0 : Int)).tdiv (6 : Int))).tmod (↑p21.length : Int) + (1 : Int))).toNat (List.take p21.length p21)) ((p21.getD ((Go.RowKit.wrap64 (Int.tdiv (p1.getD p3.toNat (0 : Int)) (6 : Int))).tmod ((↑p21.length : Int) : Int)).toNat ((0 : Int), (0 : Int))).1) ((p21.getD ((Go.RowKit.wrap64 (Int.tdiv (p1.getD p3.toNat (0 : Int)) (6 : Int))).tmod ((↑p21.length : Int) : Int)).toNat ((0 : Int), (0 : Int))).2) (p22) (p23) (p24) (p25)
                                          else
                                            none
                                        else
                                          none
                                      else
                                        none
                                    else
                                      none
                                  else
                                    none
                                else
                                  none
                              else
                                none
                            else
                              none
        else
          none
      else
        none
    else
      (arena_Check ((p4, p5, ((p6, p7, p8, p9), (p10, p11, p12, p13), p14, p15, p16, p17), p18, p19))).bind fun r11 =>
      some (r11 == (0 : Int))
def tendrillaw07_ArenaPinned_4_L116 : Nat → (Int) → (Int) → (Int) → (Int) → (List Int) → (Int) → (Int) → (Int) → (Int) → (List Int) → (List Int) → (List Int) → (List Int) → (List Int) → (List Int) → (List Int) → (List Int) → (List Int) → (List Int) → (List Int) → (List Int) → (List Int) → (List Int) → (Int) → (List Int) → (List Bool) → (List (Int × Int)) → (List (Int × Int)) → (List (Int × Int)) → (List (Int × Int)) → (List (Int × Int)) → Option (Bool)
  | 0, _, _, _, _, _, _, _, _, _, _, _, _, _, _, _, _, _, _, _, _, _, _, _, _, _, _, _, _, _, _, _ => none
  | k + 1, p0, p1, p2, p3, p4, p5, p6, p7, p8, p9, p10, p11, p12, p13, p14, p15, p16, p17, p18, p19, p20, p21, p22, p23, p24, p25, p26, p27, p28, p29, p30 =>
    bif Decidable.decide (p8 < p7) then
      bif Decidable.decide (p8 = (↑(nat_lit 3) : Int)) then
        tendrillaw07_ArenaPinned_4_L122 k (p0) (p1) (p2) (p3) (p8) (p4) (p5) (p6) (p7) (p8) ((↑p30.length : Int)) ((0 : Int)) (p9) (p10) (p11) (p12) (p13) (p14) (p15) (p16) (p17) (p18) (p19) (p20) (p21) (p22) (p23) (p24) (p25) (p26) (p30) (p27) (p28) (p29)
      else
        bif Decidable.decide (p8 = (↑(nat_lit 2) : Int)) then
          tendrillaw07_ArenaPinned_4_L122x1 k (p0) (p1) (p2) (p3) (p8) (p4) (p5) (p6) (p7) (p8) ((↑p29.length : Int)) ((0 : Int)) (p9) (p10) (p11) (p12) (p13) (p14) (p15) (p16) (p17) (p18) (p19) (p20) (p21) (p22) (p23) (p24) (p25) (p26) (p29) (p27) (p28) (p30)
        else
          bif Decidable.decide (p8 = (↑(nat_lit 1) : Int)) then
            tendrillaw07_ArenaPinned_4_L122x2 k (p0) (p1) (p2) (p3) (p8) (p4) (p5) (p6) (p7) (p8) ((↑p28.length : Int)) ((0 : Int)) (p9) (p10) (p11) (p12) (p13) (p14) (p15) (p16) (p17) (p18) (p19) (p20) (p21) (p22) (p23) (p24) (p25) (p26) (p28) (p27) (p29) (p30)
          else
            bif Decidable.decide (p8 = (↑(nat_lit 0) : Int)) then
              tendrillaw07_ArenaPinned_4_L122x3 k (p0) (p1) (p2) (p3) (p8) (p4) (p5) (p6) (p7) (p8) ((↑p27.length : Int)) ((0 : Int)) (p9) (p10) (p11) (p12) (p13) (p14) (p15) (p16) (p17) (p18) (p19) (p20) (p21) (p22) (p23) (p24) (p25) (p26) (p27) (p28) (p29) (p30)
            else
              none
    else
      bif Decidable.decide (p26.length + [(p1, p2)].length ≤ (1000000 : Nat)) then
        tendrillaw07_ArenaPinned_4_L26 k (p0) (p4) (p5) (Go.RowKit.wrap64 (p6 + (1 : Int))) (p9) (p10) (p11) (p12) (p13) (p14) (p15) (p16) (p17) (p18) (p19) (p20) (p21) (p22) (p23) (p24) (p25) (p26 ++ [(p1, p2)]) (p27) (p28) (p29) (p30)
      else
        none
def tendrillaw07_ArenaPinned_4_L62 : Nat → (Int) → (Int) → (List Int) → (Int) → (Int) → (Int) → (Int) → (List Int) → (List Int) → (List Int) → (List Int) → (List Int) → (List Int) → (List Int) → (List Int) → (List Int) → (List Int) → (List Int) → (List Int) → (List Int) → (List Int) → (Int) → (List Int) → (List Bool) → (List (Int × Int)) → (Int) → (Int) → (List (Int × Int)) → (List (Int × Int)) → (List (Int × Int)) → (List (Int × Int)) → Option (Bool)
  | 0, _, _, _, _, _, _, _, _, _, _, _, _, _, _, _, _, _, _, _, _, _, _, _, _, _, _, _, _, _, _, _ => none
  | k + 1, p0, p1, p2, p3, p4, p5, p6, p7, p8, p9, p10, p11, p12, p13, p14, p15, p16, p17, p18, p19, p20, p21, p22, p23, p24, p25, p26, p27, p28, p29, p30 =>
    bif Decidable.decide (p6 < p5) then
      bif Decidable.decide ((0 : Int) ≤ p6) then
        bif Decidable.decide (p6 < (↑p23.length : Int)) then
          bif p23.getD p6.toNat Bool.false then
            bif Decidable.decide (p6 = (↑(nat_lit 3) : Int)) then
              bif Decidable.decide (p30.length + [(p25, p1)].length ≤ (1000000 : Nat)) then
                bif Decidable.decide (p6 = (↑(nat_lit 3) : Int)) then
                  tendrillaw07_ArenaPinned_4_L62 k (p0) (p1) (p2) (p3) (p4) (p5) (Go.RowKit.wrap64 (p6 + (1 : Int))) (p7) (p8) (p9) (p10) (p11) (p12) (p13) (p14) (p15) (p16) (p17) (p18) (p19) (p20) (p21) (p22) (p23) (p24) (p25) (p26) (p27) (p28) (p29) (p30 ++ [(p25, p1)])
                else
                  bif Decidable.decide (p6 = (↑(nat_lit 2) : Int)) then
                    none
                  else
                    bif Decidable.decide (p6 = (↑(nat_lit 1) : Int)) then
                      none
                    else
                      bif Decidable.decide (p6 = (↑(nat_lit 0) : Int)) then
                        none
                      else
                        none
              else
                none
            else
              bif Decidable.decide (p6 = (↑(nat_lit 2) : Int)) then
                bif Decidable.decide (p29.length + [(p25, p1)].length ≤ (1000000 : Nat)) then
                  bif Decidable.decide (p6 = (↑(nat_lit 3) : Int)) then
                    none
                  else
                    bif Decidable.decide (p6 = (↑(nat_lit 2) : Int)) then
                      tendrillaw07_ArenaPinned_4_L62 k (p0) (p1) (p2) (p3) (p4) (p5) (Go.RowKit.wrap64 (p6 + (1 : Int))) (p7) (p8) (p9) (p10) (p11) (p12) (p13) (p14) (p15) (p16) (p17) (p18) (p19) (p20) (p21) (p22) (p23) (p24) (p25) (p26) (p27) (p28) (p29 ++ [(p25, p1)]) (p30)
                    else
                      bif Decidable.decide (p6 = (↑(nat_lit 1) : Int)) then
                        none
                      else
                        bif Decidable.decide (p6 = (↑(nat_lit 0) : Int)) then
                          none
                        else
                          none
                else
                  none
              else
                bif Decidable.decide (p6 = (↑(nat_lit 1) : Int)) then
                  bif Decidable.decide (p28.length + [(p25, p1)].length ≤ (1000000 : Nat)) then
                    bif Decidable.decide (p6 = (↑(nat_lit 3) : Int)) then
                      none
                    else
                      bif Decidable.decide (p6 = (↑(nat_lit 2) : Int)) then
                        none
                      else
                        bif Decidable.decide (p6 = (↑(nat_lit 1) : Int)) then
                          tendrillaw07_ArenaPinned_4_L62 k (p0) (p1) (p2) (p3) (p4) (p5) (Go.RowKit.wrap64 (p6 + (1 : Int))) (p7) (p8) (p9) (p10) (p11) (p12) (p13) (p14) (p15) (p16) (p17) (p18) (p19) (p20) (p21) (p22) (p23) (p24) (p25) (p26) (p27) (p28 ++ [(p25, p1)]) (p29) (p30)
                        else
                          bif Decidable.decide (p6 = (↑(nat_lit 0) : Int)) then
                            none
                          else
                            none
                  else
                    none
                else
                  bif Decidable.decide (p6 = (↑(nat_lit 0) : Int)) then
                    bif Decidable.decide (p27.length + [(p25, p1)].length ≤ (1000000 : Nat)) then
                      bif Decidable.decide (p6 = (↑(nat_lit 3) : Int)) then
                        none
                      else
                        bif Decidable.decide (p6 = (↑(nat_lit 2) : Int)) then
                          none
                        else
                          bif Decidable.decide (p6 = (↑(nat_lit 1) : Int)) then
                            none
                          else
                            bif Decidable.decide (p6 = (↑(nat_lit 0) : Int)) then
                              tendrillaw07_ArenaPinned_4_L62 k (p0) (p1) (p2) (p3) (p4) (p5) (Go.RowKit.wrap64 (p6 + (1 : Int))) (p7) (p8) (p9) (p10) (p11) (p12) (p13) (p14) (p15) (p16) (p17) (p18) (p19) (p20) (p21) (p22) (p23) (p24) (p25) (p26) (p27 ++ [(p25, p1)]) (p28) (p29) (p30)
                            else
                              none
                    else
                      none
                  else
                    none
          else
            tendrillaw07_ArenaPinned_4_L62 k (p0) (p1) (p2) (p3) (p4) (p5) (Go.RowKit.wrap64 (p6 + (1 : Int))) (p7) (p8) (p9) (p10) (p11) (p12) (p13) (p14) (p15) (p16) (p17) (p18) (p19) (p20) (p21) (p22) (p23) (p24) (p25) (p26) (p27) (p28) (p29) (p30)
        else
          none
      else
        none
    else
      tendrillaw07_ArenaPinned_4_L26 k (p0) (p2) (p3) (Go.RowKit.wrap64 (p4 + (1 : Int))) (p7) (p8) (p9) (p10) (p11) (p12) (p13) (p14) (p15) (p16) (p17) (p18) (p19) (p20) (p21) (p22) (p23) (p24) (p27) (p28) (p29) (p30)
def tendrillaw07_ArenaPinned_4_L122 : Nat → (Int) → (Int) → (Int) → (Int) → (Int) → (List Int) → (Int) → (Int) → (Int) → (Int) → (Int) → (Int) → (List Int) → (List Int) → (List Int) → (List Int) → (List Int) → (List Int) → (List Int) → (List Int) → (List Int) → (List Int) → (List Int) → (List Int) → (List Int) → (List Int) → (Int) → (List Int) → (List Bool) → (List (Int × Int)) → (List (Int × Int)) → (List (Int × Int)) → (List (Int × Int)) → (List (Int × Int)) → Option (Bool)
  | 0, _, _, _, _, _, _, _, _, _, _, _, _, _, _, _, _, _, _, _, _, _, _, _, _, _, _, _, _, _, _, _, _, _, _ => none
  | k + 1, p0, p1, p2, p3, p4, p5, p6, p7, p8, p9, p10, p11, p12, p13, p14, p15, p16, p17, p18, p19, p20, p21, p22, p23, p24, p25, p26, p27, p28, p29, p30, p31, p32, p33 =>
    bif Decidable.decide (p11 < p10) then
      bif Decidable.decide ((0 : Int) ≤ p11) then
        bif Decidable.decide (p11 < (↑p30.length : Int)) then
          bif Decidable.decide ((0 : Int) ≤ p4) then
            bif Decidable.decide (p4 < (↑p28.length : Int)) then
              bif p28.getD p4.toNat Bool.false then
                bif (p30.getD p11.toNat ((0 : Int), (0 : Int))).1 == p1 && ((p30.getD p11.toNat ((0 : Int), (0 : Int))).2 == p3 && Bool.true) then
                  some (Bool.false)
                else
                  tendrillaw07_ArenaPinned_4_L122 k (p0) (p1) (p2) (p3) (p4) (p5) (p6) (p7) (p8) (p9) (p10) (Go.RowKit.wrap64 (p11 + (1 : Int))) (p12) (p13) (p14) (p15) (p16) (p17) (p18) (p19) (p20) (p21) (p22) (p23) (p24) (p25) (p26) (p27) (p28) (p29) (p30) (p31) (p32) (p33)
              else
                tendrillaw07_ArenaPinned_4_L122 k (p0) (p1) (p2) (p3) (p4) (p5) (p6) (p7) (p8) (p9) (p10) (Go.RowKit.wrap64 (p11 + (1 : Int))) (p12) (p13) (p14) (p15) (p16) (p17) (p18) (p19) (p20) (p21) (p22) (p23) (p24) (p25) (p26) (p27) (p28) (p29) (p30) (p31) (p32) (p33)
            else
              none
          else
            none
        else
          none
      else
        none
    else
      tendrillaw07_ArenaPinned_4_L116 k (p0) (p1) (p2) (p3) (p5) (p6) (p7) (p8) (Go.RowKit.wrap64 (p9 + (1 : Int))) (p12) (p13) (p14) (p15) (p16) (p17) (p18) (p19) (p20) (p21) (p22) (p23) (p24) (p25) (p26) (p27) (p28) (p29) (p31) (p32) (p33) (p30)
def tendrillaw07_ArenaPinned_4_L122x1 : Nat → (Int) → (Int) → (Int) → (Int) → (Int) → (List Int) → (Int) → (Int) → (Int) → (Int) → (Int) → (Int) → (List Int) → (List Int) → (List Int) → (List Int) → (List Int) → (List Int) → (List Int) → (List Int) → (List Int) → (List Int) → (List Int) → (List Int) → (List Int) → (List Int) → (Int) → (List Int) → (List Bool) → (List (Int × Int)) → (List (Int × Int)) → (List (Int × Int)) → (List (Int × Int)) → (List (Int × Int)) → Option (Bool)
  | 0, _, _, _, _, _, _, _, _, _, _, _, _, _, _, _, _, _, _, _, _, _, _, _, _, _, _, _, _, _, _, _, _, _, _ => none
  | k + 1, p0, p1, p2, p3, p4, p5, p6, p7, p8, p9, p10, p11, p12, p13, p14, p15, p16, p17, p18, p19, p20, p21, p22, p23, p24, p25, p26, p27, p28, p29, p30, p31, p32, p33 =>
    bif Decidable.decide (p11 < p10) then
      bif Decidable.decide ((0 : Int) ≤ p11) then
        bif Decidable.decide (p11 < (↑p30.length : Int)) then
          bif Decidable.decide ((0 : Int) ≤ p4) then
            bif Decidable.decide (p4 < (↑p28.length : Int)) then
              bif p28.getD p4.toNat Bool.false then
                bif (p30.getD p11.toNat ((0 : Int), (0 : Int))).1 == p1 && ((p30.getD p11.toNat ((0 : Int), (0 : Int))).2 == p3 && Bool.true) then
                  some (Bool.false)
                else
                  tendrillaw07_ArenaPinned_4_L122x1 k (p0) (p1) (p2) (p3) (p4) (p5) (p6) (p7) (p8) (p9) (p10) (Go.RowKit.wrap64 (p11 + (1 : Int))) (p12) (p13) (p14) (p15) (p16) (p17) (p18) (p19) (p20) (p21) (p22) (p23) (p24) (p25) (p26) (p27) (p28) (p29) (p30) (p31) (p32) (p33)
              else
                tendrillaw07_ArenaPinned_4_L122x1 k (p0) (p1) (p2) (p3) (p4) (p5) (p6) (p7) (p8) (p9) (p10) (Go.RowKit.wrap64 (p11 + (1 : Int))) (p12) (p13) (p14) (p15) (p16) (p17) (p18) (p19) (p20) (p21) (p22) (p23) (p24) (p25) (p26) (p27) (p28) (p29) (p30) (p31) (p32) (p33)
            else
              none
          else
            none
        else
          none
      else
        none
    else
      tendrillaw07_ArenaPinned_4_L116 k (p0) (p1) (p2) (p3) (p5) (p6) (p7) (p8) (Go.RowKit.wrap64 (p9 + (1 : Int))) (p12) (p13) (p14) (p15) (p16) (p17) (p18) (p19) (p20) (p21) (p22) (p23) (p24) (p25) (p26) (p27) (p28) (p29) (p31) (p32) (p30) (p33)
def tendrillaw07_ArenaPinned_4_L122x2 : Nat → (Int) → (Int) → (Int) → (Int) → (Int) → (List Int) → (Int) → (Int) → (Int) → (Int) → (Int) → (Int) → (List Int) → (List Int) → (List Int) → (List Int) → (List Int) → (List Int) → (List Int) → (List Int) → (List Int) → (List Int) → (List Int) → (List Int) → (List Int) → (List Int) → (Int) → (List Int) → (List Bool) → (List (Int × Int)) → (List (Int × Int)) → (List (Int × Int)) → (List (Int × Int)) → (List (Int × Int)) → Option (Bool)
  | 0, _, _, _, _, _, _, _, _, _, _, _, _, _, _, _, _, _, _, _, _, _, _, _, _, _, _, _, _, _, _, _, _, _, _ => none
  | k + 1, p0, p1, p2, p3, p4, p5, p6, p7, p8, p9, p10, p11, p12, p13, p14, p15, p16, p17, p18, p19, p20, p21, p22, p23, p24, p25, p26, p27, p28, p29, p30, p31, p32, p33 =>
    bif Decidable.decide (p11 < p10) then
      bif Decidable.decide ((0 : Int) ≤ p11) then
        bif Decidable.decide (p11 < (↑p30.length : Int)) then
          bif Decidable.decide ((0 : Int) ≤ p4) then
            bif Decidable.decide (p4 < (↑p28.length : Int)) then
              bif p28.getD p4.toNat Bool.false then
                bif (p30.getD p11.toNat ((0 : Int), (0 : Int))).1 == p1 && ((p30.getD p11.toNat ((0 : Int), (0 : Int))).2 == p3 && Bool.true) then
                  some (Bool.false)
                else
                  tendrillaw07_ArenaPinned_4_L122x2 k (p0) (p1) (p2) (p3) (p4) (p5) (p6) (p7) (p8) (p9) (p10) (Go.RowKit.wrap64 (p11 + (1 : Int))) (p12) (p13) (p14) (p15) (p16) (p17) (p18) (p19) (p20) (p21) (p22) (p23) (p24) (p25) (p26) (p27) (p28) (p29) (p30) (p31) (p32) (p33)
              else
                tendrillaw07_ArenaPinned_4_L122x2 k (p0) (p1) (p2) (p3) (p4) (p5) (p6) (p7) (p8) (p9) (p10) (Go.RowKit.wrap64 (p11 + (1 : Int))) (p12) (p13) (p14) (p15) (p16) (p17) (p18) (p19) (p20) (p21) (p22) (p23) (p24) (p25) (p26) (p27) (p28) (p29) (p30) (p31) (p32) (p33)
            else
              none
          else
            none
        else
          none
      else
        none
    else
      tendrillaw07_ArenaPinned_4_L116 k (p0) (p1) (p2) (p3) (p5) (p6) (p7) (p8) (Go.RowKit.wrap64 (p9 + (1 : Int))) (p12) (p13) (p14) (p15) (p16) (p17) (p18) (p19) (p20) (p21) (p22) (p23) (p24) (p25) (p26) (p27) (p28) (p29) (p31) (p30) (p32) (p33)
def tendrillaw07_ArenaPinned_4_L122x3 : Nat → (Int) → (Int) → (Int) → (Int) → (Int) → (List Int) → (Int) → (Int) → (Int) → (Int) → (Int) → (Int) → (List Int) → (List Int) → (List Int) → (List Int) → (List Int) → (List Int) → (List Int) → (List Int) → (List Int) → (List Int) → (List Int) → (List Int) → (List Int) → (List Int) → (Int) → (List Int) → (List Bool) → (List (Int × Int)) → (List (Int × Int)) → (List (Int × Int)) → (List (Int × Int)) → (List (Int × Int)) → Option (Bool)
  | 0, _, _, _, _, _, _, _, _, _, _, _, _, _, _, _, _, _, _, _, _, _, _, _, _, _, _, _, _, _, _, _, _, _, _ => none
  | k + 1, p0, p1, p2, p3, p4, p5, p6, p7, p8, p9, p10, p11, p12, p13, p14, p15, p16, p17, p18, p19, p20, p21, p22, p23, p24, p25, p26, p27, p28, p29, p30, p31, p32, p33 =>
    bif Decidable.decide (p11 < p10) then
      bif Decidable.decide ((0 : Int) ≤ p11) then
        bif Decidable.decide (p11 < (↑p30.length : Int)) then
          bif Decidable.decide ((0 : Int) ≤ p4) then
            bif Decidable.decide (p4 < (↑p28.length : Int)) then
              bif p28.getD p4.toNat Bool.false then
                bif (p30.getD p11.toNat ((0 : Int), (0 : Int))).1 == p1 && ((p30.getD p11.toNat ((0 : Int), (0 : Int))).2 == p3 && Bool.true) then
                  some (Bool.false)
                else
                  tendrillaw07_ArenaPinned_4_L122x3 k (p0) (p1) (p2) (p3) (p4) (p5) (p6) (p7) (p8) (p9) (p10) (Go.RowKit.wrap64 (p11 + (1 : Int))) (p12) (p13) (p14) (p15) (p16) (p17) (p18) (p19) (p20) (p21) (p22) (p23) (p24) (p25) (p26) (p27) (p28) (p29) (p30) (p31) (p32) (p33)
              else
                tendrillaw07_ArenaPinned_4_L122x3 k (p0) (p1) (p2) (p3) (p4) (p5) (p6) (p7) (p8) (p9) (p10) (Go.RowKit.wrap64 (p11 + (1 : Int))) (p12) (p13) (p14) (p15) (p16) (p17) (p18) (p19) (p20) (p21) (p22) (p23) (p24) (p25) (p26) (p27) (p28) (p29) (p30) (p31) (p32) (p33)
            else
              none
          else
            none
        else
          none
      else
        none
    else
      tendrillaw07_ArenaPinned_4_L116 k (p0) (p1) (p2) (p3) (p5) (p6) (p7) (p8) (Go.RowKit.wrap64 (p9 + (1 : Int))) (p12) (p13) (p14) (p15) (p16) (p17) (p18) (p19) (p20) (p21) (p22) (p23) (p24) (p25) (p26) (p27) (p28) (p29) (p30) (p31) (p32) (p33)
end
def tendrillaw07_ArenaPinned_4_K (K : Nat) (x : (Int × Int × Int × Int × Int) × List Int) : Option (Bool) :=
  (tendrillaw07_live (())).bind fun r0 =>
  bif !r0 then
    some (Bool.false)
  else
    bif Decidable.decide ((120 : Int) < (↑(List.length x.2) : Int)) then
      some (Bool.true)
    else
      (arena_New (((x.fst.1, x.fst.snd.1, x.fst.snd.snd.1, x.fst.snd.snd.snd.1, x.fst.snd.snd.snd.2), (4 : Int)))).bind fun r1 =>
      bif r1.2 != (0 : Int) then
        some ((↑(List.length r1.fst.snd.snd.snd.2) : Int) == (0 : Int))
      else
        tendrillaw07_ArenaPinned_4_L26 K ((4 : Int)) (x.2) ((↑(List.length x.2) : Int)) ((0 : Int)) (r1.fst.1) (r1.fst.snd.1) (r1.fst.snd.snd.fst.fst.1) (r1.fst.snd.snd.fst.fst.snd.1) (r1.fst.snd.snd.fst.fst.snd.snd.1) (r1.fst.snd.snd.fst.fst.snd.snd.2) (r1.fst.snd.snd.fst.snd.fst.1) (r1.fst.snd.snd.fst.snd.fst.snd.1) (r1.fst.snd.snd.fst.snd.fst.snd.snd.1) (r1.fst.snd.snd.fst.snd.fst.snd.snd.2) (r1.fst.snd.snd.fst.snd.snd.1) (r1.fst.snd.snd.fst.snd.snd.snd.1) (r1.fst.snd.snd.fst.snd.snd.snd.snd.1) (r1.fst.snd.snd.fst.snd.snd.snd.snd.2) (r1.fst.snd.snd.snd.1) (r1.fst.snd.snd.snd.2) (List.replicate (Int.toNat (4 : Int)) Bool.false) ([]) ([]) ([]) ([]) ([])
def tendrillaw07_ArenaPinned_4 (x : (Int × (Int × (Int × (Int × Int)))) × (List Int)) : Option (Bool) := tendrillaw07_ArenaPinned_4_K 2000000 x
def tendrillaw07_ArenaPinned_4_S : Sig := ⟨[⟨true, (.pair .int (.pair .int (.pair .int (.pair .int .int))))⟩, ⟨false, (.sl .int)⟩], [⟨false, .bool⟩], false, tendrillaw07_ArenaPinned_4⟩
/-! tendril/tendrillaw07.ArenaPinned -/
mutual
def tendrillaw07_ArenaPinned_5_L26 : Nat → (Int) → (List Int) → (Int) → (Int) → (List Int) → (List Int) → (List Int) → (List Int) → (List Int) → (List Int) → (List Int) → (List Int) → (List Int) → (List Int) → (List Int) → (List Int) → (List Int) → (List Int) → (Int) → (List Int) → (List Bool) → (List (Int × Int)) → (List (Int × Int)) → (List (Int × Int)) → (List (Int × Int)) → (List (Int × Int)) → (List (Int × Int)) → Option (Bool)
  | 0, _, _, _, _, _, _, _, _, _, _, _, _, _, _, _, _, _, _, _, _, _, _, _, _, _, _, _ => none
  | k + 1, p0, p1, p2, p3, p4, p5, p6, p7, p8, p9, p10, p11, p12, p13, p14, p15, p16, p17, p18, p19, p20, p21, p22, p23, p24, p25, p26 =>
    bif Decidable.decide (p3 < p2) then
      bif Decidable.decide ((0 : Int) ≤ p3) then
        bif Decidable.decide (p3 < (↑p1.length : Int)) then
          bif Decidable.decide (p1.getD p3.toNat (0 : Int) < (0 : Int)) then
            some (Bool.true)
          else
            bif Decidable.decide (p0 = (0 : Int)) then
              none
            else
              bif (p1.getD p3.toNat (0 : Int)).tmod (6 : Int) == (0 : Int) then
                (arena_Pin (((p4, p5, ((p6, p7, p8, p9), (p10, p11, p12, p13), p14, p15, p16, p17), p18, p19), (Go.RowKit.wrap64 ((p1.getD p3.toNat (0 : Int)).tdiv (6 : Int))).tmod p0))).bind fun r2 =>
                bif r2.2 == (0 : Int) then
                  bif Decidable.decide ((0 : Int) ≤ (Go.RowKit.wrap64 ((p1.getD p3.toNat (0 : Int)).tdiv (6 : Int))).tmod p0) then
                    bif Decidable.decide ((Go.RowKit.wrap64 ((p1.getD p3.toNat (0 : Int)).tdiv (6 : Int))).tmod p0 < (↑p20.length : Int)) then
                      bif Decidable.decide ((Go.RowKit.wrap64 ((p1.getD p3.toNat (0 : Int)).tdiv (6 : Int))).tmod p0 = (↑(nat_lit 4) : Int)) then
                        tendrillaw07_ArenaPinned_5_L26 k (p0) (p1) (p2) (Go.RowKit.wrap64 (p3 + (1 : Int))) (r2.fst.1) (r2.fst.snd.1) (r2.fst.snd.snd.fst.fst.1) (r2.fst.snd.snd.fst.fst.snd.1) (r2.fst.snd.snd.fst.fst.snd.snd.1) (r2.fst.snd.snd.fst.fst.snd.snd.2) (r2.fst.snd.snd.fst.snd.fst.1) (r2.fst.snd.snd.fst.snd.fst.snd.1) (r2.fst.snd.snd.fst.snd.fst.snd.snd.1) (r2.fst.snd.snd.fst.snd.fst.snd.snd.2) (r2.fst.snd.snd.fst.snd.snd.1) (r2.fst.snd.snd.fst.snd.snd.snd.1) (r2.fst.snd.snd.fst.snd.snd.snd.snd.1) (r2.fst.snd.snd.fst.snd.snd.snd.snd.2) (r2.fst.snd.snd.snd.1) (r2.fst.snd.snd.snd.2) (p20.set ((Go.RowKit.wrap64 ((p1.getD p3.toNat (0 : Int)).tdiv (6 : Int))).tmod p0).toNat Bool.true) (p21) (p22) (p23) (p24) (p25) ([])
                      else
                        bif Decidable.decide ((Go.RowKit.wrap64 ((p1.getD p3.toNat (0 : Int)).tdiv (6 : Int))).tmod p0 = (↑(nat_lit 3) : Int)) then
                          tendrillaw07_ArenaPinned_5_L26 k (p0) (p1) (p2) (Go.RowKit.wrap64 (p3 + (1 : Int))) (r2.fst.1) (r2.fst.snd.1) (r2.fst.snd.snd.fst.fst.1) (r2.fst.snd.snd.fst.fst.snd.1) (r2.fst.snd.snd.fst.fst.snd.snd.1) (r2.fst.snd.snd.fst.fst.snd.snd.2) (r2.fst.snd.snd.fst.snd.fst.1) (r2.fst.snd.snd.fst.snd.fst.snd.1) (r2.fst.snd.snd.fst.snd.fst.snd.snd.1) (r2.fst.snd.snd.fst.snd.fst.snd.snd.2) (r2.fst.snd.snd.fst.snd.snd.1) (r2.fst.snd.snd.fst.snd.snd.snd.1) (r2.fst.snd.snd.fst.snd.snd.snd.snd.1) (r2.fst.snd.snd.fst.snd.snd.snd.snd.2) (r2.fst.snd.snd.snd.1) (r2.fst.snd.snd.snd.2) (p20.set ((Go.RowKit.wrap64 ((p1.getD p3.toNat (0 : Int)).tdiv (6 : Int))).tmod p0).toNat Bool.true) (p21) (p22) (p23) (p24) ([]) (p26)
                        else
                          bif Decidable.decide ((Go.RowKit.wrap64 ((p1.getD p3.toNat (0 : Int)).tdiv (6 : Int))).tmod p0 = (↑(nat_lit 2) : Int)) then
                            tendrillaw07_ArenaPinned_5_L26 k (p0) (p1) (p2) (Go.RowKit.wrap64 (p3 + (1 : Int))) (r2.fst.1) (r2.fst.snd.1) (r2.fst.snd.snd.fst.fst.1) (r2.fst.snd.snd.fst.fst.snd.1) (r2.fst.snd.snd.fst.fst.snd.snd.1) (r2.fst.snd.snd.fst.fst.snd.snd.2) (r2.fst.snd.snd.fst.snd.fst.1) (r2.fst.snd.snd.fst.snd.fst.snd.1) (r2.fst.snd.snd.fst.snd.fst.snd.snd.1) (r2.fst.snd.snd.fst.snd.fst.snd.snd.2) (r2.fst.snd.snd.fst.snd.snd.1) (r2.fst.snd.snd.fst.snd.snd.snd.1) (r2.fst.snd.snd.fst.snd.snd.snd.snd.1) (r2.fst.snd.snd.fst.snd.snd.snd.snd.2) (r2.fst.snd.snd.snd.1) (r2.fst.snd.snd.snd.2) (p20.set ((Go.RowKit.wrap64 ((p1.getD p3.toNat (0 : Int)).tdiv (6 : Int))).tmod p0).toNat Bool.true) (p21) (p22) (p23) ([]) (p25) (p26)
                          else
                            bif Decidable.decide ((Go.RowKit.wrap64 ((p1.getD p3.toNat (0 : Int)).tdiv (6 : Int))).tmod p0 = (↑(nat_lit 1) : Int)) then
                              tendrillaw07_ArenaPinned_5_L26 k (p0) (p1) (p2) (Go.RowKit.wrap64 (p3 + (1 : Int))) (r2.fst.1) (r2.fst.snd.1) (r2.fst.snd.snd.fst.fst.1) (r2.fst.snd.snd.fst.fst.snd.1) (r2.fst.snd.snd.fst.fst.snd.snd.1) (r2.fst.snd.snd.fst.fst.snd.snd.2) (r2.fst.snd.snd.fst.snd.fst.1) (r2.fst.snd.snd.fst.snd.fst.snd.1) (r2.fst.snd.snd.fst.snd.fst.snd.snd.1) (r2.fst.snd.snd.fst.snd.fst.snd.snd.2) (r2.fst.snd.snd.fst.snd.snd.1) (r2.fst.snd.snd.fst.snd.snd.snd.1) (r2.fst.snd.snd.fst.snd.snd.snd.snd.1) (r2.fst.snd.snd.fst.snd.snd.snd.snd.2) (r2.fst.snd.snd.snd.1) (r2.fst.snd.snd.snd.2) (p20.set ((Go.RowKit.wrap64 ((p1.getD p3.toNat (0 : Int)).tdiv (6 : Int))).tmod p0).toNat Bool.true) (p21) (p22) ([]) (p24) (p25) (p26)
                            else
                              bif Decidable.decide ((Go.RowKit.wrap64 ((p1.getD p3.toNat (0 : Int)).tdiv (6 : Int))).tmod p0 = (↑(nat_lit 0) : Int)) then
                                tendrillaw07_ArenaPinned_5_L26 k (p0) (p1) (p2) (Go.RowKit.wrap64 (p3 + (1 : Int))) (r2.fst.1) (r2.fst.snd.1) (r2.fst.snd.snd.fst.fst.1) (r2.fst.snd.snd.fst.fst.snd.1) (r2.fst.snd.snd.fst.fst.snd.snd.1) (r2.fst.snd.snd.fst.fst.snd.snd.2) (r2.fst.snd.snd.fst.snd.fst.1) (r2.fst.snd.snd.fst.snd.fst.snd.1) (r2.fst.snd.snd.fst.snd.fst.snd.snd.1) (r2.fst.snd.snd.fst.snd.fst.snd.snd.2) (r2.fst.snd.snd.fst.snd.snd.1) (r2.fst.snd.snd.fst.snd.snd.snd.1) (r2.fst.snd.snd.fst.snd.snd.snd.snd.1) (r2.fst.snd.snd.fst.snd.snd.snd.snd.2) (r2.fst.snd.snd.snd.1) (r2.fst.snd.snd.snd.2) (p20.set ((Go.RowKit.wrap64 ((p1.getD p3.toNat (0 : Int)).tdiv (6 : Int))).tmod p0).toNat Bool.true) (p21) ([]) (p23) (p24) (p25) (p26)
                              else
                                none
                    else
                      none
                  else
                    none
                else
                  tendrillaw07_ArenaPinned_5_L26 k (p0) (p1) (p2) (Go.RowKit.wrap64 (p3 + (1 : Int))) (p4) (p5) (p6) (p7) (p8) (p9) (p10) (p11) (p12) (p13) (p14) (p15) (p16) (p17) (p18) (p19) (p20) (p21) (p22) (p23) (p24) (p25) (p26)
              else
                bif (p1.getD p3.toNat (0 : Int)).tmod (6 : Int) == (1 : Int) then
                  (arena_End (((p4, p5, ((p6, p7, p8, p9), (p10, p11, p12, p13), p14, p15, p16, p17), p18, p19), (Go.RowKit.wrap64 ((p1.getD p3.toNat (0 : Int)).tdiv (6 : Int))).tmod p0))).bind fun r3 =>
                  bif r3.2 == (0 : Int) then
                    bif Decidable.decide ((0 : Int) ≤ (Go.RowKit.wrap64 ((p1.getD p3.toNat (0 : Int)).tdiv (6 : Int))).tmod p0) then
                      bif Decidable.decide ((Go.RowKit.wrap64 ((p1.getD p3.toNat (0 : Int)).tdiv (6 : Int))).tmod p0 < (↑p20.length : Int)) then
                        tendrillaw07_ArenaPinned_5_L26 k (p0) (p1) (p2) (Go.RowKit.wrap64 (p3 + (1 : Int))) (r3.fst.1) (r3.fst.snd.1) (r3.fst.snd.snd.fst.fst.1) (r3.fst.snd.snd.fst.fst.snd.1) (r3.fst.snd.snd.fst.fst.snd.snd.1) (r3.fst.snd.snd.fst.fst.snd.snd.2) (r3.fst.snd.snd.fst.snd.fst.1) (r3.fst.snd.snd.fst.snd.fst.snd.1) (r3.fst.snd.snd.fst.snd.fst.snd.snd.1) (r3.fst.snd.snd.fst.snd.fst.snd.snd.2) (r3.fst.snd.snd.fst.snd.snd.1) (r3.fst.snd.snd.fst.snd.snd.snd.1) (r3.fst.snd.snd.fst.snd.snd.snd.snd.1) (r3.fst.snd.snd.fst.snd.snd.snd.snd.2) (r3.fst.snd.snd.snd.1) (r3.fst.snd.snd.snd.2) (p20.set ((Go.RowKit.wrap64 ((p1.getD p3.toNat (0 : Int)).tdiv (6 : Int))).tmod p0).toNat Bool.false) (p21) (p22) (p23) (p24) (p25) (p26)
                      else
                        none
                    else
                      none
                  else
                    tendrillaw07_ArenaPinned_5_L26 k (p0) (p1) (p2) (Go.RowKit.wrap64 (p3 + (1 : Int))) (p4) (p5) (p6) (p7) (p8) (p9) (p10) (p11) (p12) (p13) (p14) (p15) (p16) (p17) (p18) (p19) (p20) (p21) (p22) (p23) (p24) (p25) (p26)
                else
                  bif (p1.getD p3.toNat (0 : Int)).tmod (6 : Int) == (2 : Int) then
                    (arena_Turn ((p4, p5, ((p6, p7, p8, p9), (p10, p11, p12, p13), p14, p15, p16, p17), p18, p19))).bind fun r4 =>
                    tendrillaw07_ArenaPinned_5_L26 k (p0) (p1) (p2) (Go.RowKit.wrap64 (p3 + (1 : Int))) (r4.fst.1) (r4.fst.snd.1) (r4.fst.snd.snd.fst.fst.1) (r4.fst.snd.snd.fst.fst.snd.1) (r4.fst.snd.snd.fst.fst.snd.snd.1) (r4.fst.snd.snd.fst.fst.snd.snd.2) (r4.fst.snd.snd.fst.snd.fst.1) (r4.fst.snd.snd.fst.snd.fst.snd.1) (r4.fst.snd.snd.fst.snd.fst.snd.snd.1) (r4.fst.snd.snd.fst.snd.fst.snd.snd.2) (r4.fst.snd.snd.fst.snd.snd.1) (r4.fst.snd.snd.fst.snd.snd.snd.1) (r4.fst.snd.snd.fst.snd.snd.snd.snd.1) (r4.fst.snd.snd.fst.snd.snd.snd.snd.2) (r4.fst.snd.snd.snd.1) (r4.fst.snd.snd.snd.2) (p20) (p21) (p22) (p23) (p24) (p25) (p26)
                  else
                    bif (p1.getD p3.toNat (0 : Int)).tmod (6 : Int) == (3 : Int) then
                      (arena_Take (((p4, p5, ((p6, p7, p8, p9), (p10, p11, p12, p13), p14, p15, p16, p17), p18, p19), Go.RowKit.wrap64 ((Go.RowKit.wrap64 ((p1.getD p3.toNat (0 : Int)).tdiv (6 : Int))).tmod (3 : Int) + (1 : Int))))).bind fun r5 =>
                      bif r5.snd.2 != (0 : Int) then
                        tendrillaw07_ArenaPinned_5_L26 k (p0) (p1) (p2) (Go.RowKit.wrap64 (p3 + (1 : Int))) (p4) (p5) (p6) (p7) (p8) (p9) (p10) (p11) (p12) (p13) (p14) (p15) (p16) (p17) (p18) (p19) (p20) (p21) (p22) (p23) (p24) (p25) (p26)
                      else
                        (tag_Unpack (r5.snd.1)).bind fun r6 =>
                        bif r6.snd.2 != (0 : Int) then
                          some (Bool.false)
                        else
                          tendrillaw07_ArenaPinned_5_L116 k (p0) (Go.RowKit.wrap64 ((Go.RowKit.wrap64 ((p1.getD p3.toNat (0 : Int)).tdiv (6 : Int))).tmod (3 : Int) + (1 : Int))) (r5.snd.1) (r6.1) (p1) (p2) (p3) ((↑(5 : Nat) : Int)) ((0 : Int)) (r5.fst.1) (r5.fst.snd.1) (r5.fst.snd.snd.fst.fst.1) (r5.fst.snd.snd.fst.fst.snd.1) (r5.fst.snd.snd.fst.fst.snd.snd.1) (r5.fst.snd.snd.fst.fst.snd.snd.2) (r5.fst.snd.snd.fst.snd.fst.1) (r5.fst.snd.snd.fst.snd.fst.snd.1) (r5.fst.snd.snd.fst.snd.fst.snd.snd.1) (r5.fst.snd.snd.fst.snd.fst.snd.snd.2) (r5.fst.snd.snd.fst.snd.snd.1) (r5.fst.snd.snd.fst.snd.snd.snd.1) (r5.fst.snd.snd.fst.snd.snd.snd.snd.1) (r5.fst.snd.snd.fst.snd.snd.snd.snd.2) (r5.fst.snd.snd.snd.1) (r5.fst.snd.snd.snd.2) (p20) (p21) (p22) (p23) (p24) (p25) (p26)
                    else
                      bif (p1.getD p3.toNat (0 : Int)).tmod (6 : Int) == (4 : Int) then
                        (arena_Take (((p4, p5, ((p6, p7, p8, p9), (p10, p11, p12, p13), p14, p15, p16, p17), p18, p19), Go.RowKit.wrap64 ((Go.RowKit.wrap64 ((p1.getD p3.toNat (0 : Int)).tdiv (6 : Int))).tmod (3 : Int) + (1 : Int))))).bind fun r7 =>
                        bif r7.snd.2 != (0 : Int) then
                          tendrillaw07_ArenaPinned_5_L26 k (p0) (p1) (p2) (Go.RowKit.wrap64 (p3 + (1 : Int))) (p4) (p5) (p6) (p7) (p8) (p9) (p10) (p11) (p12) (p13) (p14) (p15) (p16) (p17) (p18) (p19) (p20) (p21) (p22) (p23) (p24) (p25) (p26)
                        else
                          (tag_Unpack (r7.snd.1)).bind fun r8 =>
                          bif r8.snd.2 != (0 : Int) then
                            some (Bool.false)
                          else
                            tendrillaw07_ArenaPinned_5_L116 k (p0) (Go.RowKit.wrap64 ((Go.RowKit.wrap64 ((p1.getD p3.toNat (0 : Int)).tdiv (6 : Int))).tmod (3 : Int) + (1 : Int))) (r7.snd.1) (r8.1) (p1) (p2) (p3) ((↑(5 : Nat) : Int)) ((0 : Int)) (r7.fst.1) (r7.fst.snd.1) (r7.fst.snd.snd.fst.fst.1) (r7.fst.snd.snd.fst.fst.snd.1) (r7.fst.snd.snd.fst.fst.snd.snd.1) (r7.fst.snd.snd.fst.fst.snd.snd.2) (r7.fst.snd.snd.fst.snd.fst.1) (r7.fst.snd.snd.fst.snd.fst.snd.1) (r7.fst.snd.snd.fst.snd.fst.snd.snd.1) (r7.fst.snd.snd.fst.snd.fst.snd.snd.2) (r7.fst.snd.snd.fst.snd.snd.1) (r7.fst.snd.snd.fst.snd.snd.snd.1) (r7.fst.snd.snd.fst.snd.snd.snd.snd.1) (r7.fst.snd.snd.fst.snd.snd.snd.snd.2) (r7.fst.snd.snd.snd.1) (r7.fst.snd.snd.snd.2) (p20) (p21) (p22) (p23) (p24) (p25) (p26)
                      else
                        bif (↑p21.length : Int) == (0 : Int) then
                          tendrillaw07_ArenaPinned_5_L26 k (p0) (p1) (p2) (Go.RowKit.wrap64 (p3 + (1 : Int))) (p4) (p5) (p6) (p7) (p8) (p9) (p10) (p11) (p12) (p13) (p14) (p15) (p16) (p17) (p18) (p19) (p20) (p21) (p22) (p23) (p24) (p25) (p26)
                        else
                          bif Decidable.decide ((↑p21.length : Int) = (0 : Int)) then
                            none
                          else
                            bif Decidable.decide ((0 : Int) ≤ (Go.RowKit.wrap64 ((p1.getD p3.toNat (0 : Int)).tdiv (6 : Int))).tmod (↑p21.length : Int)) then
                              bif Decidable.decide ((Go.RowKit.wrap64 ((p1.getD p3.toNat (0 : Int)).tdiv (6 : Int))).tmod (↑p21.length : Int) < (↑p21.length : Int)) then
                                bif Decidable.decide ((↑(0 : Nat) : Int) ≤ (Go.RowKit.wrap64 ((p1.getD p3.toNat (0 : Int)).tdiv (6 : Int))).tmod (↑p21.length : Int)) then
                                  bif Decidable.decide ((Go.RowKit.wrap64 ((p1.getD p3.toNat (0 : Int)).tdiv (6 : Int))).tmod (↑p21.length : Int) ≤ (↑p21.length : Int)) then
                                    bif Decidable.decide ((0 : Nat) + (List.drop (0 : Nat) (List.take ((Go.RowKit.wrap64 ((p1.getD p3.toNat (0 : Int)).tdiv (6 : Int))).tmod (↑p21.length : Int)).toNat p21)).length ≤ (1000000 : Nat)) then
                                      bif Decidable.decide ((↑(0 : Nat) : Int) ≤ Go.RowKit.wrap64 ((Go.RowKit.wrap64 ((p1.getD p3.toNat (0 : Int)).tdiv (6 : Int))).tmod (↑p21.length : Int) + (1 : Int))) then
                                        bif Decidable.decide (Go.RowKit.wrap64 ((Go.RowKit.wrap64 ((p1.getD p3.toNat (0 : Int)).tdiv (6 : Int))).tmod (↑p21.length : Int) + (1 : Int)) ≤ (↑p21.length : Int)) then
                                          bif Decidable.decide ((List.drop (0 : Nat) (List.take ((Go.RowKit.wrap64 ((p1.getD p3.toNat (0 : Int)).tdiv (6 : Int))).tmod (↑p21.length : Int)).toNat p21)).length + (List.drop (Go.RowKit.wrap64 ((Go.RowKit.wrap64 ((p1.getD p3.toNat (0 : Int)).tdiv (6 : Int))).tmod (↑p21.length : Int) + (1 : Int))).toNat (List.take p21.length p21)).length ≤ (1000000 : Nat)) then
                                            (arena_Retire (((p4, p5, ((p6, p7, p8, p9), (p10, p11, p12, p13), p14, p15, p16, p17), p18, p19), (p21.getD ((Go.RowKit.wrap64 (Int.tdiv (p1.getD p3.toNat (0 : Int)) (6 : Int))).tmod ((↑p21.length : Int) : Int)).toNat ((0 : Int), (0 : Int))).1, (p21.getD ((Go.RowKit.wrap64 (Int.tdiv (p1.getD p3.toNat (0 : Int)) (6 : Int))).tmod ((↑p21.length : Int) : Int)).toNat ((0 : Int), (0 : Int))).2))).bind fun r9 =>
                                            (tag_Unpack ((p21.getD ((Go.RowKit.wrap64 (Int.tdiv (p1.getD p3.toNat (0 : Int)) (6 : Int))).tmod ((↑p21.length : Int) : Int)).toNat ((0 : Int), (0 : Int))).2)).bind fun r10 =>
                                            bif r9.2 != (0 : Int) then
                                              some (Bool.false)
                                            else
                                              bif r10.snd.2 != (0 : Int) then
                                                some (Bool.false)
                                              else
                                                tendrillaw07_ArenaPinned_5_L62 k (p0) (r10.1) (p1) (p2) (p3) ((↑(5 : Nat) : Int)) ((0 : Int)) (r9.fst.1) (r9.fst.snd.1) (r9.fst.snd.snd.fst.fst.1) (r9.fst.snd.snd.fst.fst.snd.1) (r9.fst.snd.snd.fst.fst.snd.snd.1) (r9.fst.snd.snd.fst.fst.snd.snd.2) (r9.fst.snd.snd.fst.snd.fst.1) (r9.fst.snd.snd.fst.snd.fst.snd.1) (r9.fst.snd.snd.fst.snd.fst.snd.snd.1) (r9.fst.snd.snd.fst.snd.fst.snd.snd.2) (r9.fst.snd.snd.fst.snd.snd.1) (r9.fst.snd.snd.fst.snd.snd.snd.1) (r9.fst.snd.snd.fst.snd.snd.snd.snd.1) (r9.fst.snd.snd.fst.snd.snd.snd.snd.2) (r9.fst.snd.snd.snd.1) (r9.fst.snd.snd.snd.2) (p20) (List.drop (0 : Nat) (List.take ((Go.RowKit.wrap64 ((p1.getD p3.toNat (0 : Int)).tdiv (6 : Int))).tmod (↑p21.length : Int)).toNat p21) ++ List.drop (Go.RowKit.wrap64 ((Go.RowKit.wrap64 ((p1.getD p3.toNat (0 : Int)).tdiv (6 : Int))).tmod (↑p21.length : Int) + (1 : Int))).toNat (List.take p21.length p21)) ((p21.getD ((Go.RowKit.wrap64 (Int.tdiv (p1.getD p3.toNat (0 : Int)) (6 : Int))).tmod ((↑p21.length : Int) : Int)).toNat ((0 : Int), (0 : Int))).1) ((p21.getD ((Go.RowKit.wrap64 (Int.tdiv (p1.getD p3.toNat (0 : Int)) (6 : Int))).tmod ((↑p21.length : Int) : Int)).toNat ((0 : Int), (0 : Int))).2) (p22) (p23) (p24) (p25) (p26)
                                          else
                                            none
                                        else
                                          none
                                      else
                                        none
                                    else
                                      none
                                  else
                                    none
                                else
                                  none
                              else
                                none
                            else
                              none
        else
          none
      else
        none
    else
      (arena_Check ((p4, p5, ((p6, p7, p8, p9), (p10, p11, p12, p13), p14, p15, p16, p17), p18, p19))).bind fun r11 =>
      some (r11 == (0 : Int))
def tendrillaw07_ArenaPinned_5_L116 : Nat → (Int) → (Int) → (Int) → (Int) → (List Int) → (Int) → (Int) → (Int) → (Int) → (List Int) → (List Int) → (List Int) → (List Int) → (List Int) → (List Int) → (List Int) → (List Int) → (List Int) → (List Int) → (List Int) → (List Int) → (List Int) → (List Int) → (Int) → (List Int) → (List Bool) → (List (Int × Int)) → (List (Int × Int)) → (List (Int × Int)) → (List (Int × Int)) → (List (Int × Int)) → (List (Int × Int)) → Option (Bool)
  | 0, _, _, _, _, _, _, _, _, _, _, _, _, _, _, _, _, _, _, _, _, _, _, _, _, _, _, _, _, _, _, _, _ => none
  | k + 1, p0, p1, p2, p3, p4, p5, p6, p7, p8, p9, p10, p11, p12, p13, p14, p15, p16, p17, p18, p19, p20, p21, p22, p23, p24, p25, p26, p27, p28, p29, p30, p31 =>
    bif Decidable.decide (p8 < p7) then
      bif Decidable.decide (p8 = (↑(nat_lit 4) : Int)) then
        tendrillaw07_ArenaPinned_5_L122 k (p0) (p1) (p2) (p3) (p8) (p4) (p5) (p6) (p7) (p8) ((↑p31.length : Int)) ((0 : Int)) (p9) (p10) (p11) (p12) (p13) (p14) (p15) (p16) (p17) (p18) (p19) (p20) (p21) (p22) (p23) (p24) (p25) (p26) (p31) (p27) (p28) (p29) (p30)
      else
        bif Decidable.decide (p8 = (↑(nat_lit 3) : Int)) then
          tendrillaw07_ArenaPinned_5_L122x1 k (p0) (p1) (p2) (p3) (p8) (p4) (p5) (p6) (p7) (p8) ((↑p30.length : Int)) ((0 : Int)) (p9) (p10) (p11) (p12) (p13) (p14) (p15) (p16) (p17) (p18) (p19) (p20) (p21) (p22) (p23) (p24) (p25) (p26) (p30) (p27) (p28) (p29) (p31)
        else
          bif Decidable.decide (p8 = (↑(nat_lit 2) : Int)) then
            tendrillaw07_ArenaPinned_5_L122x2 k (p0) (p1) (p2) (p3) (p8) (p4) (p5) (p6) (p7) (p8) ((↑p29.length : Int)) ((0 : Int)) (p9) (p10) (p11) (p12) (p13) (p14) (p15) (p16) (p17) (p18) (p19) (p20) (p21) (p22) (p23) (p24) (p25) (p26) (p29) (p27) (p28) (p30) (p31)
          else
            bif Decidable.decide (p8 = (↑(nat_lit 1) : Int)) then
              tendrillaw07_ArenaPinned_5_L122x3 k (p0) (p1) (p2) (p3) (p8) (p4) (p5) (p6) (p7) (p8) ((↑p28.length : Int)) ((0 : Int)) (p9) (p10) (p11) (p12) (p13) (p14) (p15) (p16) (p17) (p18) (p19) (p20) (p21) (p22) (p23) (p24) (p25) (p26) (p28) (p27) (p29) (p30) (p31)
            else
              bif Decidable.decide (p8 = (↑(nat_lit 0) : Int)) then
                tendrillaw07_ArenaPinned_5_L122x4 k (p0) (p1) (p2) (p3) (p8) (p4) (p5) (p6) (p7) (p8) ((↑p27.length : Int)) ((0 : Int)) (p9) (p10) (p11) (p12) (p13) (p14) (p15) (p16) (p17) (p18) (p19) (p20) (p21) (p22) (p23) (p24) (p25) (p26) (p27) (p28) (p29) (p30) (p31)
              else
                none
    else
      bif Decidable.decide (p26.length + [(p1, p2)].length ≤ (1000000 : Nat)) then
        tendrillaw07_ArenaPinned_5_L26 k (p0) (p4) (p5) (Go.RowKit.wrap64 (p6 + (1 : Int))) (p9) (p10) (p11) (p12) (p13) (p14) (p15) (p16) (p17) (p18) (p19) (p20) (p21) (p22) (p23) (p24) (p25) (p26 ++ [(p1, p2)]) (p27) (p28) (p29) (p30) (p31)
      else
        none
def tendrillaw07_ArenaPinned_5_L62 : Nat → (Int) → (Int) → (List Int) → (Int) → (Int) → (Int) → (Int) → (List Int) → (List Int) → (List Int) → (List Int) → (List Int) → (List Int) → (List Int) → (List Int) → (List Int) → (List Int) → (List Int) → (List Int) → (List Int) → (List Int) → (Int) → (List Int) → (List Bool) → (List (Int × Int)) → (Int) → (Int) → (List (Int × Int)) → (List (Int × Int)) → (List (Int × Int)) → (List (Int × Int)) → (List (Int × Int)) → Option (Bool)
  | 0, _, _, _, _, _, _, _, _, _, _, _, _, _, _, _, _, _, _, _, _, _, _, _, _, _, _, _, _, _, _, _, _ => none
  | k + 1, p0, p1, p2, p3, p4, p5, p6, p7, p8, p9, p10, p11, p12, p13, p14, p15, p16, p17, p18, p19, p20, p21, p22, p23, p24, p25, p26, p27, p28, p29, p30, p31 =>
    bif Decidable.decide (p6 < p5) then
      bif Decidable.decide ((0 : Int) ≤ p6) then
        bif Decidable.decide (p6 < (↑p23.length : Int)) then
          bif p23.getD p6.toNat Bool.false then
            bif Decidable.decide (p6 = (↑(nat_lit 4) : Int)) then
              bif Decidable.decide (p31.length + [(p25, p1)].length ≤ (1000000 : Nat)) then
                bif Decidable.decide (p6 = (↑(nat_lit 4) : Int)) then
                  tendrillaw07_ArenaPinned_5_L62 k (p0) (p1) (p2) (p3) (p4) (p5) (Go.RowKit.wrap64 (p6 + (1 : Int))) (p7) (p8) (p9) (p10) (p11) (p12) (p13) (p14) (p15) (p16) (p17) (p18) (p19) (p20) (p21) (p22) (p23) (p24) (p25) (p26) (p27) (p28) (p29) (p30) (p31 ++ [(p25, p1)])
                else
                  bif Decidable.decide (p6 = (↑(nat_lit 3) : Int)) then
                    none
                  else
                    bif Decidable.decide (p6 = (↑(nat_lit 2) : Int)) then
                      none
                    else
                      bif Decidable.decide (p6 = (↑(nat_lit 1) : Int)) then
                        none
                      else
                        bif Decidable.decide (p6 = (↑(nat_lit 0) : Int)) then
                          none
                        else
                          none
              else
                none
            else
              bif Decidable.decide (p6 = (↑(nat_lit 3) : Int)) then
                bif Decidable.decide (p30.length + [(p25, p1)].length ≤ (1000000 : Nat)) then
                  bif Decidable.decide (p6 = (↑(nat_lit 4) : Int)) then
                    none
                  else
                    bif Decidable.decide (p6 = (↑(nat_lit 3) : Int)) then
                      tendrillaw07_ArenaPinned_5_L62 k (p0) (p1) (p2) (p3) (p4) (p5) (Go.RowKit.wrap64 (p6 + (1 : Int))) (p7) (p8) (p9) (p10) (p11) (p12) (p13) (p14) (p15) (p16) (p17) (p18) (p19) (p20) (p21) (p22) (p23) (p24) (p25) (p26) (p27) (p28) (p29) (p30 ++ [(p25, p1)]) (p31)
                    else
                      bif Decidable.decide (p6 = (↑(nat_lit 2) : Int)) then
                        none
                      else
                        bif Decidable.decide (p6 = (↑(nat_lit 1) : Int)) then
                          none
                        else
                          bif Decidable.decide (p6 = (↑(nat_lit 0) : Int)) then
                            none
                          else
                            none
                else
                  none
              else
                bif Decidable.decide (p6 = (↑(nat_lit 2) : Int)) then
                  bif Decidable.decide (p29.length + [(p25, p1)].length ≤ (1000000 : Nat)) then
                    bif Decidable.decide (p6 = (↑(nat_lit 4) : Int)) then
                      none
                    else
                      bif Decidable.decide (p6 = (↑(nat_lit 3) : Int)) then
                        none
                      else
                        bif Decidable.decide (p6 = (↑(nat_lit 2) : Int)) then
                          tendrillaw07_ArenaPinned_5_L62 k (p0) (p1) (p2) (p3) (p4) (p5) (Go.RowKit.wrap64 (p6 + (1 : Int))) (p7) (p8) (p9) (p10) (p11) (p12) (p13) (p14) (p15) (p16) (p17) (p18) (p19) (p20) (p21) (p22) (p23) (p24) (p25) (p26) (p27) (p28) (p29 ++ [(p25, p1)]) (p30) (p31)
                        else
                          bif Decidable.decide (p6 = (↑(nat_lit 1) : Int)) then
                            none
                          else
                            bif Decidable.decide (p6 = (↑(nat_lit 0) : Int)) then
                              none
                            else
                              none
                  else
                    none
                else
                  bif Decidable.decide (p6 = (↑(nat_lit 1) : Int)) then
                    bif Decidable.decide (p28.length + [(p25, p1)].length ≤ (1000000 : Nat)) then
                      bif Decidable.decide (p6 = (↑(nat_lit 4) : Int)) then
                        none
                      else
                        bif Decidable.decide (p6 = (↑(nat_lit 3) : Int)) then
                          none
                        else
                          bif Decidable.decide (p6 = (↑(nat_lit 2) : Int)) then
                            none
                          else
                            bif Decidable.decide (p6 = (↑(nat_lit 1) : Int)) then
                              tendrillaw07_ArenaPinned_5_L62 k (p0) (p1) (p2) (p3) (p4) (p5) (Go.RowKit.wrap64 (p6 + (1 : Int))) (p7) (p8) (p9) (p10) (p11) (p12) (p13) (p14) (p15) (p16) (p17) (p18) (p19) (p20) (p21) (p22) (p23) (p24) (p25) (p26) (p27) (p28 ++ [(p25, p1)]) (p29) (p30) (p31)
                            else
                              bif Decidable.decide (p6 = (↑(nat_lit 0) : Int)) then
                                none
                              else
                                none
                    else
                      none
                  else
                    bif Decidable.decide (p6 = (↑(nat_lit 0) : Int)) then
                      bif Decidable.decide (p27.length + [(p25, p1)].length ≤ (1000000 : Nat)) then
                        bif Decidable.decide (p6 = (↑(nat_lit 4) : Int)) then
                          none
                        else
                          bif Decidable.decide (p6 = (↑(nat_lit 3) : Int)) then
                            none
                          else
                            bif Decidable.decide (p6 = (↑(nat_lit 2) : Int)) then
                              none
                            else
                              bif Decidable.decide (p6 = (↑(nat_lit 1) : Int)) then
                                none
                              else
                                bif Decidable.decide (p6 = (↑(nat_lit 0) : Int)) then
                                  tendrillaw07_ArenaPinned_5_L62 k (p0) (p1) (p2) (p3) (p4) (p5) (Go.RowKit.wrap64 (p6 + (1 : Int))) (p7) (p8) (p9) (p10) (p11) (p12) (p13) (p14) (p15) (p16) (p17) (p18) (p19) (p20) (p21) (p22) (p23) (p24) (p25) (p26) (p27 ++ [(p25, p1)]) (p28) (p29) (p30) (p31)
                                else
                                  none
                      else
                        none
                    else
                      none
          else
            tendrillaw07_ArenaPinned_5_L62 k (p0) (p1) (p2) (p3) (p4) (p5) (Go.RowKit.wrap64 (p6 + (1 : Int))) (p7) (p8) (p9) (p10) (p11) (p12) (p13) (p14) (p15) (p16) (p17) (p18) (p19) (p20) (p21) (p22) (p23) (p24) (p25) (p26) (p27) (p28) (p29) (p30) (p31)
        else
          none
      else
        none
    else
      tendrillaw07_ArenaPinned_5_L26 k (p0) (p2) (p3) (Go.RowKit.wrap64 (p4 + (1 : Int))) (p7) (p8) (p9) (p10) (p11) (p12) (p13) (p14) (p15) (p16) (p17) (p18) (p19) (p20) (p21) (p22) (p23) (p24) (p27) (p28) (p29) (p30) (p31)
def tendrillaw07_ArenaPinned_5_L122 : Nat → (Int) → (Int) → (Int) → (Int) → (Int) → (List Int) → (Int) → (Int) → (Int) → (Int) → (Int) → (Int) → (List Int) → (List Int) → (List Int) → (List Int) → (List Int) → (List Int) → (List Int) → (List Int) → (List Int) → (List Int) → (List Int) → (List Int) → (List Int) → (List Int) → (Int) → (List Int) → (List Bool) → (List (Int × Int)) → (List (Int × Int)) → (List (Int × Int)) → (List (Int × Int)) → (List (Int × Int)) → (List (Int × Int)) → Option (Bool)
  | 0, _, _, _, _, _, _, _, _, _, _, _, _, _, _, _, _, _, _, _, _, _, _, _, _, _, _, _, _, _, _, _, _, _, _, _ => none
  | k + 1, p0, p1, p2, p3, p4, p5, p6, p7, p8, p9, p10, p11, p12, p13, p14, p15, p16, p17, p18, p19, p20, p21, p22, p23, p24, p25, p26, p27, p28, p29, p30, p31, p32, p33, p34 =>
    bif Decidable.decide (p11 < p10) then
      bif Decidable.decide ((0 : Int) ≤ p11) then
        bif Decidable.decide (p11 < (↑p30.length : Int)) then
          bif Decidable.decide ((0 : Int) ≤ p4) then
            bif Decidable.decide (p4 < (↑p28.length : Int)) then
              bif p28.getD p4.toNat Bool.false then
                bif (p30.getD p11.toNat ((0 : Int), (0 : Int))).1 == p1 && ((p30.getD p11.toNat ((0 : Int), (0 : Int))).2 == p3 && Bool.true) then
                  some (Bool.false)
                else
                  tendrillaw07_ArenaPinned_5_L122 k (p0) (p1) (p2) (p3) (p4) (p5) (p6) (p7) (p8) (p9) (p10) (Go.RowKit.wrap64 (p11 + (1 : Int))) (p12) (p13) (p14) (p15) (p16) (p17) (p18) (p19) (p20) (p21) (p22) (p23) (p24) (p25) (p26) (p27) (p28) (p29) (p30) (p31) (p32) (p33) (p34)
              else
                tendrillaw07_ArenaPinned_5_L122 k (p0) (p1) (p2) (p3) (p4) (p5) (p6) (p7) (p8) (p9) (p10) (Go.RowKit.wrap64 (p11 + (1 : Int))) (p12) (p13) (p14) (p15) (p16) (p17) (p18) (p19) (p20) (p21) (p22) (p23) (p24) (p25) (p26) (p27) (p28) (p29) (p30) (p31) (p32) (p33) (p34)
            else
              none
          else
            none
        else
          none
      else
        none
    else
      tendrillaw07_ArenaPinned_5_L116 k (p0) (p1) (p2) (p3) (p5) (p6) (p7) (p8) (Go.RowKit.wrap64 (p9 + (1 : Int))) (p12) (p13) (p14) (p15) (p16) (p17) (p18) (p19) (p20) (p21) (p22) (p23) (p24) (p25) (p26) (p27) (p28) (p29) (p31) (p32) (p33) (p34) (p30)
def tendrillaw07_ArenaPinned_5_L122x1 : Nat → (Int) → (Int) → (Int) → (Int) → (Int) → (List Int) → (Int) → (Int) → (Int) → (Int) → (Int) → (Int) → (List Int) → (List Int) → (List Int) → (List Int) → (List Int) → (List Int) → (List Int) → (List Int) → (List Int) → (List Int) → (List Int) → (List Int) → (List Int) → (List Int) → (Int) → (List Int) → (List Bool) → (List (Int × Int)) → (List (Int × Int)) → (List (Int × Int)) → (List (Int × Int)) → (List (Int × Int)) → (List (Int × Int)) → Option (Bool)
  | 0, _, _, _, _, _, _, _, _, _, _, _, _, _, _, _, _, _, _, _, _, _, _, _, _, _, _, _, _, _, _, _, _, _, _, _ => none
  | k + 1, p0, p1, p2, p3, p4, p5, p6, p7, p8, p9, p10, p11, p12, p13, p14, p15, p16, p17, p18, p19, p20, p21, p22, p23, p24, p25, p26, p27, p28, p29, p30, p31, p32, p33, p34 =>
    bif Decidable.decide (p11 < p10) then
      bif Decidable.decide ((0 : Int) ≤ p11) then
        bif Decidable.decide (p11 < (↑p30.length : Int)) then
          bif Decidable.decide ((0 : Int) ≤ p4) then
            bif Decidable.decide (p4 < (↑p28.length : Int)) then
              bif p28.getD p4.toNat Bool.false then
                bif (p30.getD p11.toNat ((0 : Int), (0 : Int))).1 == p1 && ((p30.getD p11.toNat ((0 : Int), (0 : Int))).2 == p3 && Bool.true) then
                  some (Bool.false)
                else
                  tendrillaw07_ArenaPinned_5_L122x1 k (p0) (p1) (p2) (p3) (p4) (p5) (p6) (p7) (p8) (p9) (p10) (Go.RowKit.wrap64 (p11 + (1 : Int))) (p12) (p13) (p14) (p15) (p16) (p17) (p18) (p19) (p20) (p21) (p22) (p23) (p24) (p25) (p26) (p27) (p28) (p29) (p30) (p31) (p32) (p33) (p34)
              else
                tendrillaw07_ArenaPinned_5_L122x1 k (p0) (p1) (p2) (p3) (p4) (p5) (p6) (p7) (p8) (p9) (p10) (Go.RowKit.wrap64 (p11 + (1 : Int))) (p12) (p13) (p14) (p15) (p16) (p17) (p18) (p19) (p20) (p21) (p22) (p23) (p24) (p25) (p26) (p27) (p28) (p29) (p30) (p31) (p32) (p33) (p34)
            else
              none
          else
            none
        else
          none
      else
        none
    else
      tendrillaw07_ArenaPinned_5_L116 k (p0) (p1) (p2) (p3) (p5) (p6) (p7) (p8) (Go.RowKit.wrap64 (p9 + (1 : Int))) (p12) (p13) (p14) (p15) (p16) (p17) (p18) (p19) (p20) (p21) (p22) (p23) (p24) (p25) (p26) (p27) (p28) (p29) (p31) (p32) (p33) (p30) (p34)
def tendrillaw07_ArenaPinned_5_L122x2 : Nat → (Int) → (Int) → (Int) → (Int) → (Int) → (List Int) → (Int) → (Int) → (Int) → (Int) → (Int) → (Int) → (List Int) → (List Int) → (List Int) → (List Int) → (List Int) → (List Int) → (List Int) → (List Int) → (List Int) → (List Int) → (List Int) → (List Int) → (List Int) → (List Int) → (Int) → (List Int) → (List Bool) → (List (Int × Int)) → (List (Int × Int)) → (List (Int × Int)) → (List (Int × Int)) → (List (Int × Int)) → (List (Int × Int)) → Option (Bool)
  | 0, _, _, _, _, _, _, _, _, _, _, _, _, _, _, _, _, _, _, _, _, _, _, _, _, _, _, _, _, _, _, _, _, _, _, _ => none
  | k + 1, p0, p1, p2, p3, p4, p5, p6, p7, p8, p9, p10, p11, p12, p13, p14, p15, p16, p17, p18, p19, p20, p21, p22, p23, p24, p25, p26, p27, p28, p29, p30, p31, p32, p33, p34 =>
    bif Decidable.decide (p11 < p10) then
      bif Decidable.decide ((0 : Int) ≤ p11) then
        bif Decidable.decide (p11 < (↑p30.length : Int)) then
          bif Decidable.decide ((0 : Int) ≤ p4) then
            bif Decidable.decide (p4 < (↑p28.length : Int)) then
              bif p28.getD p4.toNat Bool.false then
                bif (p30.getD p11.toNat ((0 : Int), (0 : Int))).1 == p1 && ((p30.getD p11.toNat ((0 : Int), (0 : Int))).2 == p3 && Bool.true) then
                  some (Bool.false)
                else
                  tendrillaw07_ArenaPinned_5_L122x2 k (p0) (p1) (p2) (p3) (p4) (p5) (p6) (p7) (p8) (p9) (p10) (Go.RowKit.wrap64 (p11 + (1 : Int))) (p12) (p13) (p14) (p15) (p16) (p17) (p18) (p19) (p20) (p21) (p22) (p23) (p24) (p25) (p26) (p27) (p28) (p29) (p30) (p31) (p32) (p33) (p34)
              else
                tendrillaw07_ArenaPinned_5_L122x2 k (p0) (p1) (p2) (p3) (p4) (p5) (p6) (p7) (p8) (p9) (p10) (Go.RowKit.wrap64 (p11 + (1 : Int))) (p12) (p13) (p14) (p15) (p16) (p17) (p18) (p19) (p20) (p21) (p22) (p23) (p24) (p25) (p26) (p27) (p28) (p29) (p30) (p31) (p32) (p33) (p34)
            else
              none
          else
            none
        else
          none
      else
        none
    else
      tendrillaw07_ArenaPinned_5_L116 k (p0) (p1) (p2) (p3) (p5) (p6) (p7) (p8) (Go.RowKit.wrap64 (p9 + (1 : Int))) (p12) (p13) (p14) (p15) (p16) (p17) (p18) (p19) (p20) (p21) (p22) (p23) (p24) (p25) (p26) (p27) (p28) (p29) (p31) (p32) (p30) (p33) (p34)
def tendrillaw07_ArenaPinned_5_L122x3 : Nat → (Int) → (Int) → (Int) → (Int) → (Int) → (List Int) → (Int) → (Int) → (Int) → (Int) → (Int) → (Int) → (List Int) → (List Int) → (List Int) → (List Int) → (List Int) → (List Int) → (List Int) → (List Int) → (List Int) → (List Int) → (List Int) → (List Int) → (List Int) → (List Int) → (Int) → (List Int) → (List Bool) → (List (Int × Int)) → (List (Int × Int)) → (List (Int × Int)) → (List (Int × Int)) → (List (Int × Int)) → (List (Int × Int)) → Option (Bool)
  | 0, _, _, _, _, _, _, _, _, _, _, _, _, _, _, _, _, _, _, _, _, _, _, _, _, _, _, _, _, _, _, _, _, _, _, _ => none
  | k + 1, p0, p1, p2, p3, p4, p5, p6, p7, p8, p9, p10, p11, p12, p13, p14, p15, p16, p17, p18, p19, p20, p21, p22, p23, p24, p25, p26, p27, p28, p29, p30, p31, p32, p33, p34 =>
    bif Decidable.decide (p11 < p10) then
      bif Decidable.decide ((0 : Int) ≤ p11) then
        bif Decidable.decide (p11 < (↑p30.length : Int)) then
          bif Decidable.decide ((0 : Int) ≤ p4) then
            bif Decidable.decide (p4 < (↑p28.length : Int)) then
              bif p28.getD p4.toNat Bool.false then
                bif (p30.getD p11.toNat ((0 : Int), (0 : Int))).1 == p1 && ((p30.getD p11.toNat ((0 : Int), (0 : Int))).2 == p3 && Bool.true) then
                  some (Bool.false)
                else
                  tendrillaw07_ArenaPinned_5_L122x3 k (p0) (p1) (p2) (p3) (p4) (p5) (p6) (p7) (p8) (p9) (p10) (Go.RowKit.wrap64 (p11 + (1 : Int))) (p12) (p13) (p14) (p15) (p16) (p17) (p18) (p19) (p20) (p21) (p22) (p23) (p24) (p25) (p26) (p27) (p28) (p29) (p30) (p31) (p32) (p33) (p34)
              else
                tendrillaw07_ArenaPinned_5_L122x3 k (p0) (p1) (p2) (p3) (p4) (p5) (p6) (p7) (p8) (p9) (p10) (Go.RowKit.wrap64 (p11 + (1 : Int))) (p12) (p13) (p14) (p15) (p16) (p17) (p18) (p19) (p20) (p21) (p22) (p23) (p24) (p25) (p26) (p27) (p28) (p29) (p30) (p31) (p32) (p33) (p34)
            else
              none
          else
            none
        else
          none
      else
        none
    else
      tendrillaw07_ArenaPinned_5_L116 k (p0) (p1) (p2) (p3) (p5) (p6) (p7) (p8) (Go.RowKit.wrap64 (p9 + (1 : Int))) (p12) (p13) (p14) (p15) (p16) (p17) (p18) (p19) (p20) (p21) (p22) (p23) (p24) (p25) (p26) (p27) (p28) (p29) (p31) (p30) (p32) (p33) (p34)
def tendrillaw07_ArenaPinned_5_L122x4 : Nat → (Int) → (Int) → (Int) → (Int) → (Int) → (List Int) → (Int) → (Int) → (Int) → (Int) → (Int) → (Int) → (List Int) → (List Int) → (List Int) → (List Int) → (List Int) → (List Int) → (List Int) → (List Int) → (List Int) → (List Int) → (List Int) → (List Int) → (List Int) → (List Int) → (Int) → (List Int) → (List Bool) → (List (Int × Int)) → (List (Int × Int)) → (List (Int × Int)) → (List (Int × Int)) → (List (Int × Int)) → (List (Int × Int)) → Option (Bool)
  | 0, _, _, _, _, _, _, _, _, _, _, _, _, _, _, _, _, _, _, _, _, _, _, _, _, _, _, _, _, _, _, _, _, _, _, _ => none
  | k + 1, p0, p1, p2, p3, p4, p5, p6, p7, p8, p9, p10, p11, p12, p13, p14, p15, p16, p17, p18, p19, p20, p21, p22, p23, p24, p25, p26, p27, p28, p29, p30, p31, p32, p33, p34 =>
    bif Decidable.decide (p11 < p10) then
      bif Decidable.decide ((0 : Int) ≤ p11) then
        bif Decidable.decide (p11 < (↑p30.length : Int)) then
          bif Decidable.decide ((0 : Int) ≤ p4) then
            bif Decidable.decide (p4 < (↑p28.length : Int)) then
              bif p28.getD p4.toNat Bool.false then
                bif (p30.getD p11.toNat ((0 : Int), (0 : Int))).1 == p1 && ((p30.getD p11.toNat ((0 : Int), (0 : Int))).2 == p3 && Bool.true) then
                  some (Bool.false)
                else
                  tendrillaw07_ArenaPinned_5_L122x4 k (p0) (p1) (p2) (p3) (p4) (p5) (p6) (p7) (p8) (p9) (p10) (Go.RowKit.wrap64 (p11 + (1 : Int))) (p12) (p13) (p14) (p15) (p16) (p17) (p18) (p19) (p20) (p21) (p22) (p23) (p24) (p25) (p26) (p27) (p28) (p29) (p30) (p31) (p32) (p33) (p34)
              else
                tendrillaw07_ArenaPinned_5_L122x4 k (p0) (p1) (p2) (p3) (p4) (p5) (p6) (p7) (p8) (p9) (p10) (Go.RowKit.wrap64 (p11 + (1 : Int))) (p12) (p13) (p14) (p15) (p16) (p17) (p18) (p19) (p20) (p21) (p22) (p23) (p24) (p25) (p26) (p27) (p28) (p29) (p30) (p31) (p32) (p33) (p34)
            else
              none
          else
            none
        else
          none
      else
        none
    else
      tendrillaw07_ArenaPinned_5_L116 k (p0) (p1) (p2) (p3) (p5) (p6) (p7) (p8) (Go.RowKit.wrap64 (p9 + (1 : Int))) (p12) (p13) (p14) (p15) (p16) (p17) (p18) (p19) (p20) (p21) (p22) (p23) (p24) (p25) (p26) (p27) (p28) (p29) (p30) (p31) (p32) (p33) (p34)
end
def tendrillaw07_ArenaPinned_5_K (K : Nat) (x : (Int × Int × Int × Int × Int) × List Int) : Option (Bool) :=
  (tendrillaw07_live (())).bind fun r0 =>
  bif !r0 then
    some (Bool.false)
  else
    bif Decidable.decide ((120 : Int) < (↑(List.length x.2) : Int)) then
      some (Bool.true)
    else
      (arena_New (((x.fst.1, x.fst.snd.1, x.fst.snd.snd.1, x.fst.snd.snd.snd.1, x.fst.snd.snd.snd.2), (5 : Int)))).bind fun r1 =>
      bif r1.2 != (0 : Int) then
        some ((↑(List.length r1.fst.snd.snd.snd.2) : Int) == (0 : Int))
      else
        tendrillaw07_ArenaPinned_5_L26 K ((5 : Int)) (x.2) ((↑(List.length x.2) : Int)) ((0 : Int)) (r1.fst.1) (r1.fst.snd.1) (r1.fst.snd.snd.fst.fst.1) (r1.fst.snd.snd.fst.fst.snd.1) (r1.fst.snd.snd.fst.fst.snd.snd.1) (r1.fst.snd.snd.fst.fst.snd.snd.2) (r1.fst.snd.snd.fst.snd.fst.1) (r1.fst.snd.snd.fst.snd.fst.snd.1) (r1.fst.snd.snd.fst.snd.fst.snd.snd.1) (r1.fst.snd.snd.fst.snd.fst.snd.snd.2) (r1.fst.snd.snd.fst.snd.snd.1) (r1.fst.snd.snd.fst.snd.snd.snd.1) (r1.fst.snd.snd.fst.snd.snd.snd.snd.1) (r1.fst.snd.snd.fst.snd.snd.snd.snd.2) (r1.fst.snd.snd.snd.1) (r1.fst.snd.snd.snd.2) (List.replicate (Int.toNat (5 : Int)) Bool.false) ([]) ([]) ([]) ([]) ([]) ([])
def tendrillaw07_ArenaPinned_5 (x : (Int × (Int × (Int × (Int × Int)))) × (List Int)) : Option (Bool) := tendrillaw07_ArenaPinned_5_K 2000000 x
def tendrillaw07_ArenaPinned_5_S : Sig := ⟨[⟨true, (.pair .int (.pair .int (.pair .int (.pair .int .int))))⟩, ⟨false, (.sl .int)⟩], [⟨false, .bool⟩], false, tendrillaw07_ArenaPinned_5⟩
/-! tendril/tendrillaw07.ArenaPinned -/
mutual
def tendrillaw07_ArenaPinned_6_L26 : Nat → (Int) → (List Int) → (Int) → (Int) → (List Int) → (List Int) → (List Int) → (List Int) → (List Int) → (List Int) → (List Int) → (List Int) → (List Int) → (List Int) → (List Int) → (List Int) → (List Int) → (List Int) → (Int) → (List Int) → (List Bool) → (List (Int × Int)) → (List (Int × Int)) → (List (Int × Int)) → (List (Int × Int)) → (List (Int × Int)) → (List (Int × Int)) → (List (Int × Int)) → Option (Bool)
  | 0, _, _, _, _, _, _, _, _, _, _, _, _, _, _, _, _, _, _, _, _, _, _, _, _, _, _, _, _ => none
  | k + 1, p0, p1, p2, p3, p4, p5, p6, p7, p8, p9, p10, p11, p12, p13, p14, p15, p16, p17, p18, p19, p20, p21, p22, p23, p24, p25, p26, p27 =>
    bif Decidable.decide (p3 < p2) then
      bif Decidable.decide ((0 : Int) ≤ p3) then
        bif Decidable.decide (p3 < (↑p1.length : Int)) then
          bif Decidable.decide (p1.getD p3.toNat (0 : Int) < (0 : Int)) then
            some (Bool.true)
          else
            bif Decidable.decide (p0 = (0 : Int)) then
              none
            else
              bif (p1.getD p3.toNat (0 : Int)).tmod (6 : Int) == (0 : Int) then
                (arena_Pin (((p4, p5, ((p6, p7, p8, p9), (p10, p11, p12, p13), p14, p15, p16, p17), p18, p19), (Go.RowKit.wrap64 ((p1.getD p3.toNat (0 : Int)).tdiv (6 : Int))).tmod p0))).bind fun r2 =>
                bif r2.2 == (0 : Int) then
                  bif Decidable.decide ((0 : Int) ≤ (Go.RowKit.wrap64 ((p1.getD p3.toNat (0 : Int)).tdiv (6 : Int))).tmod p0) then
                    bif Decidable.decide ((Go.RowKit.wrap64 ((p1.getD p3.toNat (0 : Int)).tdiv (6 : Int))).tmod p0 < (↑p20.length : Int)) then
                      bif Decidable.decide ((Go.RowKit.wrap64 ((p1.getD p3.toNat (0 : Int)).tdiv (6 : Int))).tmod p0 = (↑(nat_lit 5) : Int)) then
                        tendrillaw07_ArenaPinned_6_L26 k (p0) (p1) (p2) (Go.RowKit.wrap64 (p3 + (1 : Int))) (r2.fst.1) (r2.fst.snd.1) (r2.fst.snd.snd.fst.fst.1) (r2.fst.snd.snd.fst.fst.snd.1) (r2.fst.snd.snd.fst.fst.snd.snd.1) (r2.fst.snd.snd.fst.fst.snd.snd.2) (r2.fst.snd.snd.fst.snd.fst.1) (r2.fst.snd.snd.fst.snd.fst.snd.1) (r2.fst.snd.snd.fst.snd.fst.snd.snd.1) (r2.fst.snd.snd.fst.snd.fst.snd.snd.2) (r2.fst.snd.snd.fst.snd.snd.1) (r2.fst.snd.snd.fst.snd.snd.snd.1) (r2.fst.snd.snd.fst.snd.snd.snd.snd.1) (r2.fst.snd.snd.fst.snd.snd.snd.snd.2) (r2.fst.snd.snd.snd.1) (r2.fst.snd.snd.snd.2) (p20.set ((Go.RowKit.wrap64 ((p1.getD p3.toNat (0 : Int)).tdiv (6 : Int))).tmod p0).toNat Bool.true) (p21) (p22) (p23) (p24) (p25) (p26) ([])
                      else
                        bif Decidable.decide ((Go.RowKit.wrap64 ((p1.getD p3.toNat (0 : Int)).tdiv (6 : Int))).tmod p0 = (↑(nat_lit 4) : Int)) then
                          tendrillaw07_ArenaPinned_6_L26 k (p0) (p1) (p2) (Go.RowKit.wrap64 (p3 + (1 : Int))) (r2.fst.1) (r2.fst.snd.1) (r2.fst.snd.snd.fst.fst.1) (r2.fst.snd.snd.fst.fst.snd.1) (r2.fst.snd.snd.fst.fst.snd.snd.1) (r2.fst.snd.snd.fst.fst.snd.snd.2) (r2.fst.snd.snd.fst.snd.fst.1) (r2.fst.snd.snd.fst.snd.fst.snd.1) (r2.fst.snd.snd.fst.snd.fst.snd.snd.1) (r2.fst.snd.snd.fst.snd.fst.snd.snd.2) (r2.fst.snd.snd.fst.snd.snd.1) (r2.fst.snd.snd.fst.snd.snd.snd.1) (r2.fst.snd.snd.fst.snd.snd.snd.snd.1) (r2.fst.snd.snd.fst.snd.snd.snd.snd.2) (r2.fst.snd.snd.snd.1) (r2.fst.snd.snd.snd.2) (p20.set ((Go.RowKit.wrap64 ((p1.getD p3.toNat (0 : Int)).tdiv (6 : Int))).tmod p0).toNat Bool.true) (p21) (p22) (p23) (p24) (p25) ([]) (p27)
                        else
                          bif Decidable.decide ((Go.RowKit.wrap64 ((p1.getD p3.toNat (0 : Int)).tdiv (6 : Int))).tmod p0 = (↑(nat_lit 3) : Int)) then
                            tendrillaw07_ArenaPinned_6_L26 k (p0) (p1) (p2) (Go.RowKit.wrap64 (p3 + (1 : Int))) (r2.fst.1) (r2.fst.snd.1) (r2.fst.snd.snd.fst.fst.1) (r2.fst.snd.snd.fst.fst.snd.1) (r2.fst.snd.snd.fst.fst.snd.snd.1) (r2.fst.snd.snd.fst.fst.snd.snd.2) (r2.fst.snd.snd.fst.snd.fst.1) (r2.fst.snd.snd.fst.snd.fst.snd.1) (r2.fst.snd.snd.fst.snd.fst.snd.snd.1) (r2.fst.snd.snd.fst.snd.fst.snd.snd.2) (r2.fst.snd.snd.fst.snd.snd.1) (r2.fst.snd.snd.fst.snd.snd.snd.1) (r2.fst.snd.snd.fst.snd.snd.snd.snd.1) (r2.fst.snd.snd.fst.snd.snd.snd.snd.2) (r2.fst.snd.snd.snd.1) (r2.fst.snd.snd.snd.2) (p20.set ((Go.RowKit.wrap64 ((p1.getD p3.toNat (0 : Int)).tdiv (6 : Int))).tmod p0).toNat Bool.true) (p21) (p22) (p23) (p24) ([]) (p26) (p27)
                          else
                            bif Decidable.decide ((Go.RowKit.wrap64 ((p1.getD p3.toNat (0 : Int)).tdiv (6 : Int))).tmod p0 = (↑(nat_lit 2) : Int)) then
                              tendrillaw07_ArenaPinned_6_L26 k (p0) (p1) (p2) (Go.RowKit.wrap64 (p3 + (1 : Int))) (r2.fst.1) (r2.fst.snd.1) (r2.fst.snd.snd.fst.fst.1) (r2.fst.snd.snd.fst.fst.snd.1) (r2.fst.snd.snd.fst.fst.snd.snd.1) (r2.fst.snd.snd.fst.fst.snd.snd.2) (r2.fst.snd.snd.fst.snd.fst.1) (r2.fst.snd.snd.fst.snd.fst.snd.1) (r2.fst.snd.snd.fst.snd.fst.snd.snd.1) (r2.fst.snd.snd.fst.snd.fst.snd.snd.2) (r2.fst.snd.snd.fst.snd.snd.1) (r2.fst.snd.snd.fst.snd.snd.snd.1) (r2.fst.snd.snd.fst.snd.snd.snd.snd.1) (r2.fst.snd.snd.fst.snd.snd.snd.snd.2) (r2.fst.snd.snd.snd.1) (r2.fst.snd.snd.snd.2) (p20.set ((Go.RowKit.wrap64 ((p1.getD p3.toNat (0 : Int)).tdiv (6 : Int))).tmod p0).toNat Bool.true) (p21) (p22) (p23) ([]) (p25) (p26) (p27)
                            else
                              bif Decidable.decide ((Go.RowKit.wrap64 ((p1.getD p3.toNat (0 : Int)).tdiv (6 : Int))).tmod p0 = (↑(nat_lit 1) : Int)) then
                                tendrillaw07_ArenaPinned_6_L26 k (p0) (p1) (p2) (Go.RowKit.wrap64 (p3 + (1 : Int))) (r2.fst.1) (r2.fst.snd.1) (r2.fst.snd.snd.fst.fst.1) (r2.fst.snd.snd.fst.fst.snd.1) (r2.fst.snd.snd.fst.fst.snd.snd.1) (r2.fst.snd.snd.fst.fst.snd.snd.2) (r2.fst.snd.snd.fst.snd.fst.1) (r2.fst.snd.snd.fst.snd.fst.snd.1) (r2.fst.snd.snd.fst.snd.fst.snd.snd.1) (r2.fst.snd.snd.fst.snd.fst.snd.snd.2) (r2.fst.snd.snd.fst.snd.snd.1) (r2.fst.snd.snd.fst.snd.snd.snd.1) (r2.fst.snd.snd.fst.snd.snd.snd.snd.1) (r2.fst.snd.snd.fst.snd.snd.snd.snd.2) (r2.fst.snd.snd.snd.1) (r2.fst.snd.snd.snd.2) (p20.set ((Go.RowKit.wrap64 ((p1.getD p3.toNat (0 : Int)).tdiv (6 : Int))).tmod p0).toNat Bool.true) (p21) (p22) ([]) (p24) (p25) (p26) (p27)
                              else
                                bif Decidable.decide ((Go.RowKit.wrap64 ((p1.getD p3.toNat (0 : Int)).tdiv (6 : Int))).tmod p0 = (↑(nat_lit 0) : Int)) then
                                  tendrillaw07_ArenaPinned_6_L26 k (p0) (p1) (p2) (Go.RowKit.wrap64 (p3 + (1 : Int))) (r2.fst.1) (r2.fst.snd.1) (r2.fst.snd.snd.fst.fst.1) (r2.fst.snd.snd.fst.fst.snd.1) (r2.fst.snd.snd.fst.fst.snd.snd.1) (r2.fst.snd.snd.fst.fst.snd.snd.2) (r2.fst.snd.snd.fst.snd.fst.1) (r2.fst.snd.snd.fst.snd.fst.snd.1) (r2.fst.snd.snd.fst.snd.fst.snd.snd.1) (r2.fst.snd.snd.fst.snd.fst.snd.snd.2) (r2.fst.snd.snd.fst.snd.snd.1) (r2.fst.snd.snd.fst.snd.snd.snd.1) (r2.fst.snd.snd.fst.snd.snd.snd.snd.1) (r2.fst.snd.snd.fst.snd.snd.snd.snd.2) (r2.fst.snd.snd.snd.1) (r2.fst.snd.snd.snd.2) (p20.set ((Go.RowKit.wrap64 ((p1.getD p3.toNat (0 : Int)).tdiv (6 : Int))).tmod p0).toNat Bool.true) (p21) ([]) (p23) (p24) (p25) (p26) (p27)
                                else
                                  none
                    else
                      none
                  else
                    none
                else
                  tendrillaw07_ArenaPinned_6_L26 k (p0) (p1) (p2) (Go.RowKit.wrap64 (p3 + (1 : Int))) (p4) (p5) (p6) (p7) (p8) (p9) (p10) (p11) (p12) (p13) (p14) (p15) (p16) (p17) (p18) (p19) (p20) (p21) (p22) (p23) (p24) (p25) (p26) (p27)
              else
                bif (p1.getD p3.toNat (0 : Int)).tmod (6 : Int) == (1 : Int) then
                  (arena_End (((p4, p5, ((p6, p7, p8, p9), (p10, p11, p12, p13), p14, p15, p16, p17), p18, p19), (Go.RowKit.wrap64 ((p1.getD p3.toNat (0 : Int)).tdiv (6 : Int))).tmod p0))).bind fun r3 =>
                  bif r3.2 == (0 : Int) then
                    bif Decidable.decide ((0 : Int) ≤ (Go.RowKit.wrap64 ((p1.getD p3.toNat (0 : Int)).tdiv (6 : Int))).tmod p0) then
                      bif Decidable.decide ((Go.RowKit.wrap64 ((p1.getD p3.toNat (0 : Int)).tdiv (6 : Int))).tmod p0 < (↑p20.length : Int)) then
                        tendrillaw07_ArenaPinned_6_L26 k (p0) (p1) (p2) (Go.RowKit.wrap64 (p3 + (1 : Int))) (r3.fst.1) (r3.fst.snd.1) (r3.fst.snd.snd.fst.fst.1) (r3.fst.snd.snd.fst.fst.snd.1) (r3.fst.snd.snd.fst.fst.snd.snd.1) (r3.fst.snd.snd.fst.fst.snd.snd.2) (r3.fst.snd.snd.fst.snd.fst.1) (r3.fst.snd.snd.fst.snd.fst.snd.1) (r3.fst.snd.snd.fst.snd.fst.snd.snd.1) (r3.fst.snd.snd.fst.snd.fst.snd.snd.2) (r3.fst.snd.snd.fst.snd.snd.1) (r3.fst.snd.snd.fst.snd.snd.snd.1) (r3.fst.snd.snd.fst.snd.snd.snd.snd.1) (r3.fst.snd.snd.fst.snd.snd.snd.snd.2) (r3.fst.snd.snd.snd.1) (r3.fst.snd.snd.snd.2) (p20.set ((Go.RowKit.wrap64 ((p1.getD p3.toNat (0 : Int)).tdiv (6 : Int))).tmod p0).toNat Bool.false) (p21) (p22) (p23) (p24) (p25) (p26) (p27)
                      else
                        none
                    else
                      none
                  else
                    tendrillaw07_ArenaPinned_6_L26 k (p0) (p1) (p2) (Go.RowKit.wrap64 (p3 + (1 : Int))) (p4) (p5) (p6) (p7) (p8) (p9) (p10) (p11) (p12) (p13) (p14) (p15) (p16) (p17) (p18) (p19) (p20) (p21) (p22) (p23) (p24) (p25) (p26) (p27)
                else
                  bif (p1.getD p3.toNat (0 : Int)).tmod (6 : Int) == (2 : Int) then
                    (arena_Turn ((p4, p5, ((p6, p7, p8, p9), (p10, p11, p12, p13), p14, p15, p16, p17), p18, p19))).bind fun r4 =>
                    tendrillaw07_ArenaPinned_6_L26 k (p0) (p1) (p2) (Go.RowKit.wrap64 (p3 + (1 : Int))) (r4.fst.1) (r4.fst.snd.1) (r4.fst.snd.snd.fst.fst.1) (r4.fst.snd.snd.fst.fst.snd.1) (r4.fst.snd.snd.fst.fst.snd.snd.1) (r4.fst.snd.snd.fst.fst.snd.snd.2) (r4.fst.snd.snd.fst.snd.fst.1) (r4.fst.snd.snd.fst.snd.fst.snd.1) (r4.fst.snd.snd.fst.snd.fst.snd.snd.1) (r4.fst.snd.snd.fst.snd.fst.snd.snd.2) (r4.fst.snd.snd.fst.snd.snd.1) (r4.fst.snd.snd.fst.snd.snd.snd.1) (r4.fst.snd.snd.fst.snd.snd.snd.snd.1) (r4.fst.snd.snd.fst.snd.snd.snd.snd.2) (r4.fst.snd.snd.snd.1) (r4.fst.snd.snd.snd.2) (p20) (p21) (p22) (p23) (p24) (p25) (p26) (p27)
                  else
                    bif (p1.getD p3.toNat (0 : Int)).tmod (6 : Int) == (3 : Int) then
                      (arena_Take (((p4, p5, ((p6, p7, p8, p9), (p10, p11, p12, p13), p14, p15, p16, p17), p18, p19), Go.RowKit.wrap64 ((Go.RowKit.wrap64 ((p1.getD p3.toNat (0 : Int)).tdiv (6 : Int))).tmod (3 : Int) + (1 : Int))))).bind fun r5 =>
                      bif r5.snd.2 != (0 : Int) then
                        tendrillaw07_ArenaPinned_6_L26 k (p0) (p1) (p2) (Go.RowKit.wrap64 (p3 + (1 : Int))) (p4) (p5) (p6) (p7) (p8) (p9) (p10) (p11) (p12) (p13) (p14) (p15) (p16) (p17) (p18) (p19) (p20) (p21) (p22) (p23) (p24) (p25) (p26) (p27)
                      else
                        (tag_Unpack (r5.snd.1)).bind fun r6 =>
                        bif r6.snd.2 != (0 : Int) then
                          some (Bool.false)
                        else
                          tendrillaw07_ArenaPinned_6_L116 k (p0) (Go.RowKit.wrap64 ((Go.RowKit.wrap64 ((p1.getD p3.toNat (0 : Int)).tdiv (6 : Int))).tmod (3 : Int) + (1 : Int))) (r5.snd.1) (r6.1) (p1) (p2) (p3) ((↑(6 : Nat) : Int)) ((0 : Int)) (r5.fst.1) (r5.fst.snd.1) (r5.fst.snd.snd.fst.fst.1) (r5.fst.snd.snd.fst.fst.snd.1) (r5.fst.snd.snd.fst.fst.snd.snd.1) (r5.fst.snd.snd.fst.fst.snd.snd.2) (r5.fst.snd.snd.fst.snd.fst.1) (r5.fst.snd.snd.fst.snd.fst.snd.1) (r5.fst.snd.snd.fst.snd.fst.snd.snd.1) (r5.fst.snd.snd.fst.snd.fst.snd.snd.2) (r5.fst.snd.snd.fst.snd.snd.1) (r5.fst.snd.snd.fst.snd.snd.snd.1) (r5.fst.snd.snd.fst.snd.snd.snd.snd.1) (r5.fst.snd.snd.fst.snd.snd.snd.snd.2) (r5.fst.snd.snd.snd.1) (r5.fst.snd.snd.snd.2) (p20) (p21) (p22) (p23) (p24) (p25) (p26) (p27)
                    else
                      bif (p1.getD p3.toNat (0 : Int)).tmod (6 : Int) == (4 : Int) then
                        (arena_Take (((p4, p5, ((p6, p7, p8, p9), (p10, p11, p12, p13), p14, p15, p16, p17), p18, p19), Go.RowKit.wrap64 ((Go.RowKit.wrap64 ((p1.getD p3.toNat (0 : Int)).tdiv (6 : Int))).tmod (3 : Int) + (1 : Int))))).bind fun r7 =>
                        bif r7.snd.2 != (0 : Int) then
                          tendrillaw07_ArenaPinned_6_L26 k (p0) (p1) (p2) (Go.RowKit.wrap64 (p3 + (1 : Int))) (p4) (p5) (p6) (p7) (p8) (p9) (p10) (p11) (p12) (p13) (p14) (p15) (p16) (p17) (p18) (p19) (p20) (p21) (p22) (p23) (p24) (p25) (p26) (p27)
                        else
                          (tag_Unpack (r7.snd.1)).bind fun r8 =>
                          bif r8.snd.2 != (0 : Int) then
                            some (Bool.false)
                          else
                            tendrillaw07_ArenaPinned_6_L116 k (p0) (Go.RowKit.wrap64 ((Go.RowKit.wrap64 ((p1.getD p3.toNat (0 : Int)).tdiv (6 : Int))).tmod (3 : Int) + (1 : Int))) (r7.snd.1) (r8.1) (p1) (p2) (p3) ((↑(6 : Nat) : Int)) ((0 : Int)) (r7.fst.1) (r7.fst.snd.1) (r7.fst.snd.snd.fst.fst.1) (r7.fst.snd.snd.fst.fst.snd.1) (r7.fst.snd.snd.fst.fst.snd.snd.1) (r7.fst.snd.snd.fst.fst.snd.snd.2) (r7.fst.snd.snd.fst.snd.fst.1) (r7.fst.snd.snd.fst.snd.fst.snd.1) (r7.fst.snd.snd.fst.snd.fst.snd.snd.1) (r7.fst.snd.snd.fst.snd.fst.snd.snd.2) (r7.fst.snd.snd.fst.snd.snd.1) (r7.fst.snd.snd.fst.snd.snd.snd.1) (r7.fst.snd.snd.fst.snd.snd.snd.snd.1) (r7.fst.snd.snd.fst.snd.snd.snd.snd.2) (r7.fst.snd.snd.snd.1) (r7.fst.snd.snd.snd.2) (p20) (p21) (p22) (p23) (p24) (p25) (p26) (p27)
                      else
                        bif (↑p21.length : Int) == (0 : Int) then
                          tendrillaw07_ArenaPinned_6_L26 k (p0) (p1) (p2) (Go.RowKit.wrap64 (p3 + (1 : Int))) (p4) (p5) (p6) (p7) (p8) (p9) (p10) (p11) (p12) (p13) (p14) (p15) (p16) (p17) (p18) (p19) (p20) (p21) (p22) (p23) (p24) (p25) (p26) (p27)
                        else
                          bif Decidable.decide ((↑p21.length : Int) = (0 : Int)) then
                            none
                          else
                            bif Decidable.decide ((0 : Int) ≤ (Go.RowKit.wrap64 ((p1.getD p3.toNat (0 : Int)).tdiv (6 : Int))).tmod (↑p21.length : Int)) then
                              bif Decidable.decide ((Go.RowKit.wrap64 ((p1.getD p3.toNat (0 : Int)).tdiv (6 : Int))).tmod (↑p21.length : Int) < (↑p21.length : Int)) then
                                bif Decidable.decide ((↑(0 : Nat) : Int) ≤ (Go.RowKit.wrap64 ((p1.getD p3.toNat (0 : Int)).tdiv (6 : Int))).tmod (↑p21.length : Int)) then
                                  bif Decidable.decide ((Go.RowKit.wrap64 ((p1.getD p3.toNat (0 : Int)).tdiv (6 : Int))).tmod (↑p21.length : Int) ≤ (↑p21.length : Int)) then
                                    bif Decidable.decide ((0 : Nat) + (List.drop (0 : Nat) (List.take ((Go.RowKit.wrap64 ((p1.getD p3.toNat (0 : Int)).tdiv (6 : Int))).tmod (↑p21.length : Int)).toNat p21)).length ≤ (1000000 : Nat)) then
                                      bif Decidable.decide ((↑(0 : Nat) : Int) ≤ Go.RowKit.wrap64 ((Go.RowKit.wrap64 ((p1.getD p3.toNat (0 : Int)).tdiv (6 : Int))).tmod (↑p21.length : Int) + (1 : Int))) then
                                        bif Decidable.decide (Go.RowKit.wrap64 ((Go.RowKit.wrap64 ((p1.getD p3.toNat (0 : Int)).tdiv (6 : Int))).tmod (↑p21.length : Int) + (1 : Int)) ≤ (↑p21.length : Int)) then
                                          bif Decidable.decide ((List.drop (0 : Nat) (List.take ((Go.RowKit.wrap64 ((p1.getD p3.toNat (0 : Int)).tdiv (6 : Int))).tmod (↑p21.length : Int)).toNat p21)).length + (List.drop (Go.RowKit.wrap64 ((Go.RowKit.wrap64 ((p1.getD p3.toNat (0 : Int)).tdiv (6 : Int))).tmod (↑p21.length : Int) + (1 : Int))).toNat (List.take p21.length p21)).length ≤ (1000000 : Nat)) then
                                            (arena_Retire (((p4, p5, ((p6, p7, p8, p9), (p10, p11, p12, p13), p14, p15, p16, p17), p18, p19), (p21.getD ((Go.RowKit.wrap64 (Int.tdiv (p1.getD p3.toNat (0 : Int)) (6 : Int))).tmod ((↑p21.length : Int) : Int)).toNat ((0 : Int), (0 : Int))).1, (p21.getD ((Go.RowKit.wrap64 (Int.tdiv (p1.getD p3.toNat (0 : Int)) (6 : Int))).tmod ((↑p21.length : Int) : Int)).toNat ((0 : Int), (0 : Int))).2))).bind fun r9 =>
                                            (tag_Unpack ((p21.getD ((Go.RowKit.wrap64 (Int.tdiv (p1.getD p3.toNat (0 : Int)) (6 : Int))).tmod ((↑p21.length : Int) : Int)).toNat ((0 : Int), (0 : Int))).2)).bind fun r10 =>
                                            bif r9.2 != (0 : Int) then
                                              some (Bool.false)
                                            else
                                              bif r10.snd.2 != (0 : Int) then
                                                some (Bool.false)
                                              else
                                                tendrillaw07_ArenaPinned_6_L62 k (p0) (r10.1) (p1) (p2) (p3) ((↑(6 : Nat) : Int)) ((0 : Int)) (r9.fst.1) (r9.fst.snd.1) (r9.fst.snd.snd.fst.fst.1) (r9.fst.snd.snd.fst.fst.snd.1) (r9.fst.snd.snd.fst.fst.snd.snd.1) (r9.fst.snd.snd.fst.fst.snd.snd.2) (r9.fst.snd.snd.fst.snd.fst.1) (r9.fst.snd.snd.fst.snd.fst.snd.1) (r9.fst.snd.snd.fst.snd.fst.snd.snd.1) (r9.fst.snd.snd.fst.snd.fst.snd.snd.2) (r9.fst.snd.snd.fst.snd.snd.1) (r9.fst.snd.snd.fst.snd.snd.snd.1) (r9.fst.snd.snd.fst.snd.snd.snd.snd.1) (r9.fst.snd.snd.fst.snd.snd.snd.snd.2) (r9.fst.snd.snd.snd.1) (r9.fst.snd.snd.snd.2) (p20) (List.drop (0 : Nat) (List.take ((Go.RowKit.wrap64 ((p1.getD p3.toNat (0 : Int)).tdiv (6 : Int))).tmod (↑p21.length : Int)).toNat p21) ++ List.drop (Go.RowKit.wrap64 ((Go.RowKit.wrap64 ((p1.getD p3.toNat (0 : Int)).tdiv (6 : Int))).tmod (↑p21.length : Int) + (1 : Int))).toNat (List.take p21.length p21)) ((p21.getD ((Go.RowKit.wrap64 (Int.tdiv (p1.getD p3.toNat (0 : Int)) (6 : Int))).tmod ((↑p21.length : Int) : Int)).toNat ((0 : Int), (0 : Int))).1) ((p21.getD ((Go.RowKit.wrap64 (Int.tdiv (p1.getD p3.toNat (0 : Int)) (6 : Int))).tmod ((↑p21.length : Int) : Int)).toNat ((0 : Int), (0 : Int))).2) (p22) (p23) (p24) (p25) (p26) (p27)
                                          else
                                            none
                                        else
                                          none
                                      else
                                        none
                                    else
                                      none
                                  else
                                    none
                                else
                                  none
                              else
                                none
                            else
                              none
        else
          none
      else
        none
    else
      (arena_Check ((p4, p5, ((p6, p7, p8, p9), (p10, p11, p12, p13), p14, p15, p16, p17), p18, p19))).bind fun r11 =>
      some (r11 == (0 : Int))
def tendrillaw07_ArenaPinned_6_L116 : Nat → (Int) → (Int) → (Int) → (Int) → (List Int) → (Int) → (Int) → (Int) → (Int) → (List Int) → (List Int) → (List Int) → (List Int) → (List Int) → (List Int) → (List Int) → (List Int) → (List Int) → (List Int) → (List Int) → (List Int) → (List Int) → (List Int) → (Int) → (List Int) → (List Bool) → (List (Int × Int)) → (List (Int × Int)) → (List (Int × Int)) → (List (Int × Int)) → (List (Int × Int)) → (List (Int × Int)) → (List (Int × Int)) → Option (Bool)
  | 0, _, _, _, _, _, _, _, _, _, _, _, _, _, _, _, _, _, _, _, _, _, _, _, _, _, _, _, _, _, _, _, _, _ => none
  | k + 1, p0, p1, p2, p3, p4, p5, p6, p7, p8, p9, p10, p11, p12, p13, p14, p15, p16, p17, p18, p19, p20, p21, p22, p23, p24, p25, p26, p27, p28, p29, p30, p31, p32 =>
    bif Decidable.decide (p8 < p7) then
      bif Decidable.decide (p8 = (↑(nat_lit 5) : Int)) then
        tendrillaw07_ArenaPinned_6_L122 k (p0) (p1) (p2) (p3) (p8) (p4) (p5) (p6) (p7) (p8) ((↑p32.length : Int)) ((0 : Int)) (p9) (p10) (p11) (p12) (p13) (p14) (p15) (p16) (p17) (p18) (p19) (p20) (p21) (p22) (p23) (p24) (p25) (p26) (p32) (p27) (p28) (p29) (p30) (p31)
      else
        bif Decidable.decide (p8 = (↑(nat_lit 4) : Int)) then
          tendrillaw07_ArenaPinned_6_L122x1 k (p0) (p1) (p2) (p3) (p8) (p4) (p5) (p6) (p7) (p8) ((↑p31.length : Int)) ((0 : Int)) (p9) (p10) (p11) (p12) (p13) (p14) (p15) (p16) (p17) (p18) (p19) (p20) (p21) (p22) (p23) (p24) (p25) (p26) (p31) (p27) (p28) (p29) (p30) (p32)
        else
          bif Decidable.decide (p8 = (↑(nat_lit 3) : Int)) then
            tendrillaw07_ArenaPinned_6_L122x2 k (p0) (p1) (p2) (p3) (p8) (p4) (p5) (p6) (p7) (p8) ((↑p30.length : Int)) ((0 : Int)) (p9) (p10) (p11) (p12) (p13) (p14) (p15) (p16) (p17) (p18) (p19) (p20) (p21) (p22) (p23) (p24) (p25) (p26) (p30) (p27) (p28) (p29) (p31) (p32)
          else
            bif Decidable.decide (p8 = (↑(nat_lit 2) : Int)) then
              tendrillaw07_ArenaPinned_6_L122x3 k (p0) (p1) (p2) (p3) (p8) (p4) (p5) (p6) (p7) (p8) ((↑p29.length : Int)) ((0 : Int)) (p9) (p10) (p11) (p12) (p13) (p14) (p15) (p16) (p17) (p18) (p19) (p20) (p21) (p22) (p23) (p24) (p25) (p26) (p29) (p27) (p28) (p30) (p31) (p32)
            else
              bif Decidable.decide (p8 = (↑(nat_lit 1) : Int)) then
                tendrillaw07_ArenaPinned_6_L122x4 k (p0) (p1) (p2) (p3) (p8) (p4) (p5) (p6) (p7) (p8) ((↑p28.length : Int)) ((0 : Int)) (p9) (p10) (p11) (p12) (p13) (p14) (p15) (p16) (p17) (p18) (p19) (p20) (p21) (p22) (p23) (p24) (p25) (p26) (p28) (p27) (p29) (p30) (p31) (p32)
              else
                bif Decidable.decide (p8 = (↑(nat_lit 0) : Int)) then
                  tendrillaw07_ArenaPinned_6_L122x5 k (p0) (p1) (p2) (p3) (p8) (p4) (p5) (p6) (p7) (p8) ((↑p27.length : Int)) ((0 : Int)) (p9) (p10) (p11) (p12) (p13) (p14) (p15) (p16) (p17) (p18) (p19) (p20) (p21) (p22) (p23) (p24) (p25) (p26) (p27) (p28) (p29) (p30) (p31) (p32)
                else
                  none
    else
      bif Decidable.decide (p26.length + [(p1, p2)].length ≤ (1000000 : Nat)) then
        tendrillaw07_ArenaPinned_6_L26 k (p0) (p4) (p5) (Go.RowKit.wrap64 (p6 + (1 : Int))) (p9) (p10) (p11) (p12) (p13) (p14) (p15) (p16) (p17) (p18) (p19) (p20) (p21) (p22) (p23) (p24) (p25) (p26 ++ [(p1, p2)]) (p27) (p28) (p29) (p30) (p31) (p32)
      else
        none
def tendrillaw07_ArenaPinned_6_L62 : Nat → (Int) → (Int) → (List Int) → (Int) → (Int) → (Int) → (Int) → (List Int) → (List Int) → (List Int) → (List Int) → (List Int) → (List Int) → (List Int) → (List Int) → (List Int) → (List Int) → (List Int) → (List Int) → (List Int) → (List Int) → (Int) → (List Int) → (List Bool) → (List (Int × Int)) → (Int) → (Int) → (List (Int × Int)) → (List (Int × Int)) → (List (Int × Int)) → (List (Int × Int)) → (List (Int × Int)) → (List (Int × Int)) → Option (Bool)
  | 0, _, _, _, _, _, _, _, _, _, _, _, _, _, _, _, _, _, _, _, _, _, _, _, _, _, _, _, _, _, _, _, _, _ => none
  | k + 1, p0, p1, p2, p3, p4, p5, p6, p7, p8, p9, p10, p11, p12, p13, p14, p15, p16, p17, p18, p19, p20, p21, p22, p23, p24, p25, p26, p27, p28, p29, p30, p31, p32 =>
    bif Decidable.decide (p6 < p5) then
      bif Decidable.decide ((0 : Int) ≤ p6) then
        bif Decidable.decide (p6 < (↑p23.length : Int)) then
          bif p23.getD p6.toNat Bool.false then
            bif Decidable.decide (p6 = (↑(nat_lit 5) : Int)) then
              bif Decidable.decide (p32.length + [(p25, p1)].length ≤ (1000000 : Nat)) then
                bif Decidable.decide (p6 = (↑(nat_lit 5) : Int)) then
                  tendrillaw07_ArenaPinned_6_L62 k (p0) (p1) (p2) (p3) (p4) (p5) (Go.RowKit.wrap64 (p6 + (1 : Int))) (p7) (p8) (p9) (p10) (p11) (p12) (p13) (p14) (p15) (p16) (p17) (p18) (p19) (p20) (p21) (p22) (p23) (p24) (p25) (p26) (p27) (p28) (p29) (p30) (p31) (p32 ++ [(p25, p1)])
                else
                  bif Decidable.decide (p6 = (↑(nat_lit 4) : Int)) then
                    none
                  else
                    bif Decidable.decide (p6 = (↑(nat_lit 3) : Int)) then
                      none
                    else
                      bif Decidable.decide (p6 = (↑(nat_lit 2) : Int)) then
                        none
                      else
                        bif Decidable.decide (p6 = (↑(nat_lit 1) : Int)) then
                          none
                        else
                          bif Decidable.decide (p6 = (↑(nat_lit 0) : Int)) then
                            none
                          else
                            none
              else
                none
            else
              bif Decidable.decide (p6 = (↑(nat_lit 4) : Int)) then
                bif Decidable.decide (p31.length + [(p25, p1)].length ≤ (1000000 : Nat)) then
                  bif Decidable.decide (p6 = (↑(nat_lit 5) : Int)) then
                    none
                  else
                    bif Decidable.decide (p6 = (↑(nat_lit 4) : Int)) then
                      tendrillaw07_ArenaPinned_6_L62 k (p0) (p1) (p2) (p3) (p4) (p5) (Go.RowKit.wrap64 (p6 + (1 : Int))) (p7) (p8) (p9) (p10) (p11) (p12) (p13) (p14) (p15) (p16) (p17) (p18) (p19) (p20) (p21) (p22) (p23) (p24) (p25) (p26) (p27) (p28) (p29) (p30) (p31 ++ [(p25, p1)]) (p32)
                    else
                      bif Decidable.decide (p6 = (↑(nat_lit 3) : Int)) then
                        none
                      else
                        bif Decidable.decide (p6 = (↑(nat_lit 2) : Int)) then
                          none
                        else
                          bif Decidable.decide (p6 = (↑(nat_lit 1) : Int)) then
                            none
                          else
                            bif Decidable.decide (p6 = (↑(nat_lit 0) : Int)) then
                              none
                            else
                              none
                else
                  none
              else
                bif Decidable.decide (p6 = (↑(nat_lit 3) : Int)) then
                  bif Decidable.decide (p30.length + [(p25, p1)].length ≤ (1000000 : Nat)) then
                    bif Decidable.decide (p6 = (↑(nat_lit 5) : Int)) then
                      none
                    else
                      bif Decidable.decide (p6 = (↑(nat_lit 4) : Int)) then
                        none
                      else
                        bif Decidable.decide (p6 = (↑(nat_lit 3) : Int)) then
                          tendrillaw07_ArenaPinned_6_L62 k (p0) (p1) (p2) (p3) (p4) (p5) (Go.RowKit.wrap64 (p6 + (1 : Int))) (p7) (p8) (p9) (p10) (p11) (p12) (p13) (p14) (p15) (p16) (p17) (p18) (p19) (p20) (p21) (p22) (p23) (p24) (p25) (p26) (p27) (p28) (p29) (p30 ++ [(p25, p1)]) (p31) (p32)
                        else
                          bif Decidable.decide (p6 = (↑(nat_lit 2) : Int)) then
                            none
                          else
                            bif Decidable.decide (p6 = (↑(nat_lit 1) : Int)) then
                              none
                            else
                              bif Decidable.decide (p6 = (↑(nat_lit 0) : Int)) then
                                none
                              else
                                none
                  else
                    none
                else
                  bif Decidable.decide (p6 = (↑(nat_lit 2) : Int)) then
                    bif Decidable.decide (p29.length + [(p25, p1)].length ≤ (1000000 : Nat)) then
                      bif Decidable.decide (p6 = (↑(nat_lit 5) : Int)) then
                        none
                      else
                        bif Decidable.decide (p6 = (↑(nat_lit 4) : Int)) then
                          none
                        else
                          bif Decidable.decide (p6 = (↑(nat_lit 3) : Int)) then
                            none
                          else
                            bif Decidable.decide (p6 = (↑(nat_lit 2) : Int)) then
                              tendrillaw07_ArenaPinned_6_L62 k (p0) (p1) (p2) (p3) (p4) (p5) (Go.RowKit.wrap64 (p6 + (1 : Int))) (p7) (p8) (p9) (p10) (p11) (p12) (p13) (p14) (p15) (p16) (p17) (p18) (p19) (p20) (p21) (p22) (p23) (p24) (p25) (p26) (p27) (p28) (p29 ++ [(p25, p1)]) (p30) (p31) (p32)
                            else
                              bif Decidable.decide (p6 = (↑(nat_lit 1) : Int)) then
                                none
                              else
                                bif Decidable.decide (p6 = (↑(nat_lit 0) : Int)) then
                                  none
                                else
                                  none
                    else
                      none
                  else
                    bif Decidable.decide (p6 = (↑(nat_lit 1) : Int)) then
                      bif Decidable.decide (p28.length + [(p25, p1)].length ≤ (1000000 : Nat)) then
                        bif Decidable.decide (p6 = (↑(nat_lit 5) : Int)) then
                          none
                        else
                          bif Decidable.decide (p6 = (↑(nat_lit 4) : Int)) then
                            none
                          else
                            bif Decidable.decide (p6 = (↑(nat_lit 3) : Int)) then
                              none
                            else
                              bif Decidable.decide (p6 = (↑(nat_lit 2) : Int)) then
                                none
                              else
                                bif Decidable.decide (p6 = (↑(nat_lit 1) : Int)) then
                                  tendrillaw07_ArenaPinned_6_L62 k (p0) (p1) (p2) (p3) (p4) (p5) (Go.RowKit.wrap64 (p6 + (1 : Int))) (p7) (p8) (p9) (p10) (p11) (p12) (p13) (p14) (p15) (p16) (p17) (p18) (p19) (p20) (p21) (p22) (p23) (p24) (p25) (p26) (p27) (p28 ++ [(p25, p1)]) (p29) (p30) (p31) (p32)
                                else
                                  bif Decidable.decide (p6 = (↑(nat_lit 0) : Int)) then
                                    none
                                  else
                                    none
                      else
                        none
                    else
                      bif Decidable.decide (p6 = (↑(nat_lit 0) : Int)) then
                        bif Decidable.decide (p27.length + [(p25, p1)].length ≤ (1000000 : Nat)) then
                          bif Decidable.decide (p6 = (↑(nat_lit 5) : Int)) then
                            none
                          else
                            bif Decidable.decide (p6 = (↑(nat_lit 4) : Int)) then
                              none
                            else
                              bif Decidable.decide (p6 = (↑(nat_lit 3) : Int)) then
                                none
                              else
                                bif Decidable.decide (p6 = (↑(nat_lit 2) : Int)) then
                                  none
                                else
                                  bif Decidable.decide (p6 = (↑(nat_lit 1) : Int)) then
                                    none
                                  else
                                    bif Decidable.decide (p6 = (↑(nat_lit 0) : Int)) then
                                      tendrillaw07_ArenaPinned_6_L62 k (p0) (p1) (p2) (p3) (p4) (p5) (Go.RowKit.wrap64 (p6 + (1 : Int))) (p7) (p8) (p9) (p10) (p11) (p12) (p13) (p14) (p15) (p16) (p17) (p18) (p19) (p20) (p21) (p22) (p23) (p24) (p25) (p26) (p27 ++ [(p25, p1)]) (p28) (p29) (p30) (p31) (p32)
                                    else
                                      none
                        else
                          none
                      else
                        none
          else
            tendrillaw07_ArenaPinned_6_L62 k (p0) (p1) (p2) (p3) (p4) (p5) (Go.RowKit.wrap64 (p6 + (1 : Int))) (p7) (p8) (p9) (p10) (p11) (p12) (p13) (p14) (p15) (p16) (p17) (p18) (p19) (p20) (p21) (p22) (p23) (p24) (p25) (p26) (p27) (p28) (p29) (p30) (p31) (p32)
        else
          none
      else
        none
    else
      tendrillaw07_ArenaPinned_6_L26 k (p0) (p2) (p3) (Go.RowKit.wrap64 (p4 + (1 : Int))) (p7) (p8) (p9) (p10) (p11) (p12) (p13) (p14) (p15) (p16) (p17) (p18) (p19) (p20) (p21) (p22) (p23) (p24) (p27) (p28) (p29) (p30) (p31) (p32)
def tendrillaw07_ArenaPinned_6_L122 : Nat → (Int) → (Int) → (Int) → (Int) → (Int) → (List Int) → (Int) → (Int) → (Int) → (Int) → (Int) → (Int) → (List Int) → (List Int) → (List Int) → (List Int) → (List Int) → (List Int) → (List Int) → (List Int) → (List Int) → (List Int) → (List Int) → (List Int) → (List Int) → (List Int) → (Int) → (List Int) → (List Bool) → (List (Int × Int)) → (List (Int × Int)) → (List (Int × Int)) → (List (Int × Int)) → (List (Int × Int)) → (List (Int × Int)) → (List (Int × Int)) → Option (Bool)
  | 0, _, _, _, _, _, _, _, _, _, _, _, _, _, _, _, _, _, _, _, _, _, _, _, _, _, _, _, _, _, _, _, _, _, _, _, _ => none
  | k + 1, p0, p1, p2, p3, p4, p5, p6, p7, p8, p9, p10, p11, p12, p13, p14, p15, p16, p17, p18, p19, p20, p21, p22, p23, p24, p25, p26, p27, p28, p29, p30, p31, p32, p33, p34, p35 =>
    bif Decidable.decide (p11 < p10) then
      bif Decidable.decide ((0 : Int) ≤ p11) then
        bif Decidable.decide (p11 < (↑p30.length : Int)) then
          bif Decidable.decide ((0 : Int) ≤ p4) then
            bif Decidable.decide (p4 < (↑p28.length : Int)) then
              bif p28.getD p4.toNat Bool.false then
                bif (p30.getD p11.toNat ((0 : Int), (0 : Int))).1 == p1 && ((p30.getD p11.toNat ((0 : Int), (0 : Int))).2 == p3 && Bool.true) then
                  some (Bool.false)
                else
                  tendrillaw07_ArenaPinned_6_L122 k (p0) (p1) (p2) (p3) (p4) (p5) (p6) (p7) (p8) (p9) (p10) (Go.RowKit.wrap64 (p11 + (1 : Int))) (p12) (p13) (p14) (p15) (p16) (p17) (p18) (p19) (p20) (p21) (p22) (p23) (p24) (p25) (p26) (p27) (p28) (p29) (p30) (p31) (p32) (p33) (p34) (p35)
              else
                tendrillaw07_ArenaPinned_6_L122 k (p0) (p1) (p2) (p3) (p4) (p5) (p6) (p7) (p8) (p9) (p10) (Go.RowKit.wrap64 (p11 + (1 : Int))) (p12) (p13) (p14) (p15) (p16) (p17) (p18) (p19) (p20) (p21) (p22) (p23) (p24) (p25) (p26) (p27) (p28) (p29) (p30) (p31) (p32) (p33) (p34) (p35)
            else
              none
          else
            none
        else
          none
      else
        none
    else
      tendrillaw07_ArenaPinned_6_L116 k (p0) (p1) (p2) (p3) (p5) (p6) (p7) (p8) (Go.RowKit.wrap64 (p9 + (1 : Int))) (p12) (p13) (p14) (p15) (p16) (p17) (p18) (p19) (p20) (p21) (p22) (p23) (p24) (p25) (p26) (p27) (p28) (p29) (p31) (p32) (p33) (p34) (p35) (p30)
def tendrillaw07_ArenaPinned_6_L122x1 : Nat → (Int) → (Int) → (Int) → (Int) → (Int) → (List Int) → (Int) → (Int) → (Int) → (Int) → (Int) → (Int) → (List Int) → (List Int) → (List Int) → (List Int) → (List Int) → (List Int) → (List Int) → (List Int) → (List Int) → (List Int) → (List Int) → (List Int) → (List Int) → (List Int) → (Int) → (List Int) → (List Bool) → (List (Int × Int)) → (List (Int × Int)) → (List (Int × Int)) → (List (Int × Int)) → (List (Int × Int)) → (List (Int × Int)) → (List (Int × Int)) → Option (Bool)
  | 0, _, _, _, _, _, _, _, _, _, _, _, _, _, _, _, _, _, _, _, _, _, _, _, _, _, _, _, _, _, _, _, _, _, _, _, _ => none
  | k + 1, p0, p1, p2, p3, p4, p5, p6, p7, p8, p9, p10, p11, p12, p13, p14, p15, p16, p17, p18, p19, p20, p21, p22, p23, p24, p25, p26, p27, p28, p29, p30, p31, p32, p33, p34, p35 =>
    bif Decidable.decide (p11 < p10) then
      bif Decidable.decide ((0 : Int) ≤ p11) then
        bif Decidable.decide (p11 < (↑p30.length : Int)) then
          bif Decidable.decide ((0 : Int) ≤ p4) then
            bif Decidable.decide (p4 < (↑p28.length : Int)) then
              bif p28.getD p4.toNat Bool.false then
                bif (p30.getD p11.toNat ((0 : Int), (0 : Int))).1 == p1 && ((p30.getD p11.toNat ((0 : Int), (0 : Int))).2 == p3 && Bool.true) then
                  some (Bool.false)
                else
                  tendrillaw07_ArenaPinned_6_L122x1 k (p0) (p1) (p2) (p3) (p4) (p5) (p6) (p7) (p8) (p9) (p10) (Go.RowKit.wrap64 (p11 + (1 : Int))) (p12) (p13) (p14) (p15) (p16) (p17) (p18) (p19) (p20) (p21) (p22) (p23) (p24) (p25) (p26) (p27) (p28) (p29) (p30) (p31) (p32) (p33) (p34) (p35)
              else
                tendrillaw07_ArenaPinned_6_L122x1 k (p0) (p1) (p2) (p3) (p4) (p5) (p6) (p7) (p8) (p9) (p10) (Go.RowKit.wrap64 (p11 + (1 : Int))) (p12) (p13) (p14) (p15) (p16) (p17) (p18) (p19) (p20) (p21) (p22) (p23) (p24) (p25) (p26) (p27) (p28) (p29) (p30) (p31) (p32) (p33) (p34) (p35)
            else
              none
          else
            none
        else
          none
      else
        none
    else
      tendrillaw07_ArenaPinned_6_L116 k (p0) (p1) (p2) (p3) (p5) (p6) (p7) (p8) (Go.RowKit.wrap64 (p9 + (1 : Int))) (p12) (p13) (p14) (p15) (p16) (p17) (p18) (p19) (p20) (p21) (p22) (p23) (p24) (p25) (p26) (p27) (p28) (p29) (p31) (p32) (p33) (p34) (p30) (p35)
def tendrillaw07_ArenaPinned_6_L122x2 : Nat → (Int) → (Int) → (Int) → (Int) → (Int) → (List Int) → (Int) → (Int) → (Int) → (Int) → (Int) → (Int) → (List Int) → (List Int) → (List Int) → (List Int) → (List Int) → (List Int) → (List Int) → (List Int) → (List Int) → (List Int) → (List Int) → (List Int) → (List Int) → (List Int) → (Int) → (List Int) → (List Bool) → (List (Int × Int)) → (List (Int × Int)) → (List (Int × Int)) → (List (Int × Int)) → (List (Int × Int)) → (List (Int × Int)) → (List (Int × Int)) → Option (Bool)
  | 0, _, _, _, _, _, _, _, _, _, _, _, _, _, _, _, _, _, _, _, _, _, _, _, _, _, _, _, _, _, _, _, _, _, _, _, _ => none
  | k + 1, p0, p1, p2, p3, p4, p5, p6, p7, p8, p9, p10, p11, p12, p13, p14, p15, p16, p17, p18, p19, p20, p21, p22, p23, p24, p25, p26, p27, p28, p29, p30, p31, p32, p33, p34, p35 =>
    bif Decidable.decide (p11 < p10) then
      bif Decidable.decide ((0 : Int) ≤ p11) then
        bif Decidable.decide (p11 < (↑p30.length : Int)) then
          bif Decidable.decide ((0 : Int) ≤ p4) then
            bif Decidable.decide (p4 < (↑p28.length : Int)) then
              bif p28.getD p4.toNat Bool.false then
                bif (p30.getD p11.toNat ((0 : Int), (0 : Int))).1 == p1 && ((p30.getD p11.toNat ((0 : Int), (0 : Int))).2 == p3 && Bool.true) then
                  some (Bool.false)
                else
                  tendrillaw07_ArenaPinned_6_L122x2 k (p0) (p1) (p2) (p3) (p4) (p5) (p6) (p7) (p8) (p9) (p10) (Go.RowKit.wrap64 (p11 + (1 : Int))) (p12) (p13) (p14) (p15) (p16) (p17) (p18) (p19) (p20) (p21) (p22) (p23) (p24) (p25) (p26) (p27) (p28) (p29) (p30) (p31) (p32) (p33) (p34) (p35)
              else
                tendrillaw07_ArenaPinned_6_L122x2 k (p0) (p1) (p2) (p3) (p4) (p5) (p6) (p7) (p8) (p9) (p10) (Go.RowKit.wrap64 (p11 + (1 : Int))) (p12) (p13) (p14) (p15) (p16) (p17) (p18) (p19) (p20) (p21) (p22) (p23) (p24) (p25) (p26) (p27) (p28) (p29) (p30) (p31) (p32) (p33) (p34) (p35)
            else
              none
          else
            none
        else
          none
      else
        none
    else
      tendrillaw07_ArenaPinned_6_L116 k (p0) (p1) (p2) (p3) (p5) (p6) (p7) (p8) (Go.RowKit.wrap64 (p9 + (1 : Int))) (p12) (p13) (p14) (p15) (p16) (p17) (p18) (p19) (p20) (p21) (p22) (p23) (p24) (p25) (p26) (p27) (p28) (p29) (p31) (p32) (p33) (p30) (p34) (p35)
def tendrillaw07_ArenaPinned_6_L122x3 : Nat → (Int) → (Int) → (Int) → (Int) → (Int) → (List Int) → (Int) → (Int) → (Int) → (Int) → (Int) → (Int) → (List Int) → (List Int) → (List Int) → (List Int) → (List Int) → (List Int) → (List Int) → (List Int) → (List Int) → (List Int) → (List Int) → (List Int) → (List Int) → (List Int) → (Int) → (List Int) → (List Bool) → (List (Int × Int)) → (List (Int × Int)) → (List (Int × Int)) → (List (Int × Int)) → (List (Int × Int)) → (List (Int × Int)) → (List (Int × Int)) → Option (Bool)
  | 0, _, _, _, _, _, _, _, _, _, _, _, _, _, _, _, _, _, _, _, _, _, _, _, _, _, _, _, _, _, _, _, _, _, _, _, _ => none
  | k + 1, p0, p1, p2, p3, p4, p5, p6, p7, p8, p9, p10, p11, p12, p13, p14, p15, p16, p17, p18, p19, p20, p21, p22, p23, p24, p25, p26, p27, p28, p29, p30, p31, p32, p33, p34, p35 =>
    bif Decidable.decide (p11 < p10) then
      bif Decidable.decide ((0 : Int) ≤ p11) then
        bif Decidable.decide (p11 < (↑p30.length : Int)) then
          bif Decidable.decide ((0 : Int) ≤ p4) then
            bif Decidable.decide (p4 < (↑p28.length : Int)) then
              bif p28.getD p4.toNat Bool.false then
                bif (p30.getD p11.toNat ((0 : Int), (0 : Int))).1 == p1 && ((p30.getD p11.toNat ((0 : Int), (0 : Int))).2 == p3 && Bool.true) then
                  some (Bool.false)
                else
                  tendrillaw07_ArenaPinned_6_L122x3 k (p0) (p1) (p2) (p3) (p4) (p5) (p6) (p7) (p8) (p9) (p10) (Go.RowKit.wrap64 (p11 + (1 : Int))) (p12) (p13) (p14) (p15) (p16) (p17) (p18) (p19) (p20) (p21) (p22) (p23) (p24) (p25) (p26) (p27) (p28) (p29) (p30) (p31) (p32) (p33) (p34) (p35)
              else
                tendrillaw07_ArenaPinned_6_L122x3 k (p0) (p1) (p2) (p3) (p4) (p5) (p6) (p7) (p8) (p9) (p10) (Go.RowKit.wrap64 (p11 + (1 : Int))) (p12) (p13) (p14) (p15) (p16) (p17) (p18) (p19) (p20) (p21) (p22) (p23) (p24) (p25) (p26) (p27) (p28) (p29) (p30) (p31) (p32) (p33) (p34) (p35)
            else
              none
          else
            none
        else
          none
      else
        none
    else
      tendrillaw07_ArenaPinned_6_L116 k (p0) (p1) (p2) (p3) (p5) (p6) (p7) (p8) (Go.RowKit.wrap64 (p9 + (1 : Int))) (p12) (p13) (p14) (p15) (p16) (p17) (p18) (p19) (p20) (p21) (p22) (p23) (p24) (p25) (p26) (p27) (p28) (p29) (p31) (p32) (p30) (p33) (p34) (p35)
def tendrillaw07_ArenaPinned_6_L122x4 : Nat → (Int) → (Int) → (Int) → (Int) → (Int) → (List Int) → (Int) → (Int) → (Int) → (Int) → (Int) → (Int) → (List Int) → (List Int) → (List Int) → (List Int) → (List Int) → (List Int) → (List Int) → (List Int) → (List Int) → (List Int) → (List Int) → (List Int) → (List Int) → (List Int) → (Int) → (List Int) → (List Bool) → (List (Int × Int)) → (List (Int × Int)) → (List (Int × Int)) → (List (Int × Int)) → (List (Int × Int)) → (List (Int × Int)) → (List (Int × Int)) → Option (Bool)
  | 0, _, _, _, _, _, _, _, _, _, _, _, _, _, _, _, _, _, _, _, _, _, _, _, _, _, _, _, _, _, _, _, _, _, _, _, _ => none
  | k + 1, p0, p1, p2, p3, p4, p5, p6, p7, p8, p9, p10, p11, p12, p13, p14, p15, p16, p17, p18, p19, p20, p21, p22, p23, p24, p25, p26, p27, p28, p29, p30, p31, p32, p33, p34, p35 =>
    bif Decidable.decide (p11 < p10) then
      bif Decidable.decide ((0 : Int) ≤ p11) then
        bif Decidable.decide (p11 < (↑p30.length : Int)) then
          bif Decidable.decide ((0 : Int) ≤ p4) then
            bif Decidable.decide (p4 < (↑p28.length : Int)) then
              bif p28.getD p4.toNat Bool.false then
                bif (p30.getD p11.toNat ((0 : Int), (0 : Int))).1 == p1 && ((p30.getD p11.toNat ((0 : Int), (0 : Int))).2 == p3 && Bool.true) then
                  some (Bool.false)
                else
                  tendrillaw07_ArenaPinned_6_L122x4 k (p0) (p1) (p2) (p3) (p4) (p5) (p6) (p7) (p8) (p9) (p10) (Go.RowKit.wrap64 (p11 + (1 : Int))) (p12) (p13) (p14) (p15) (p16) (p17) (p18) (p19) (p20) (p21) (p22) (p23) (p24) (p25) (p26) (p27) (p28) (p29) (p30) (p31) (p32) (p33) (p34) (p35)
              else
                tendrillaw07_ArenaPinned_6_L122x4 k (p0) (p1) (p2) (p3) (p4) (p5) (p6) (p7) (p8) (p9) (p10) (Go.RowKit.wrap64 (p11 + (1 : Int))) (p12) (p13) (p14) (p15) (p16) (p17) (p18) (p19) (p20) (p21) (p22) (p23) (p24) (p25) (p26) (p27) (p28) (p29) (p30) (p31) (p32) (p33) (p34) (p35)
            else
              none
          else
            none
        else
          none
      else
        none
    else
      tendrillaw07_ArenaPinned_6_L116 k (p0) (p1) (p2) (p3) (p5) (p6) (p7) (p8) (Go.RowKit.wrap64 (p9 + (1 : Int))) (p12) (p13) (p14) (p15) (p16) (p17) (p18) (p19) (p20) (p21) (p22) (p23) (p24) (p25) (p26) (p27) (p28) (p29) (p31) (p30) (p32) (p33) (p34) (p35)
def tendrillaw07_ArenaPinned_6_L122x5 : Nat → (Int) → (Int) → (Int) → (Int) → (Int) → (List Int) → (Int) → (Int) → (Int) → (Int) → (Int) → (Int) → (List Int) → (List Int) → (List Int) → (List Int) → (List Int) → (List Int) → (List Int) → (List Int) → (List Int) → (List Int) → (List Int) → (List Int) → (List Int) → (List Int) → (Int) → (List Int) → (List Bool) → (List (Int × Int)) → (List (Int × Int)) → (List (Int × Int)) → (List (Int × Int)) → (List (Int × Int)) → (List (Int × Int)) → (List (Int × Int)) → Option (Bool)
  | 0, _, _, _, _, _, _, _, _, _, _, _, _, _, _, _, _, _, _, _, _, _, _, _, _, _, _, _, _, _, _, _, _, _, _, _, _ => none
  | k + 1, p0, p1, p2, p3, p4, p5, p6, p7, p8, p9, p10, p11, p12, p13, p14, p15, p16, p17, p18, p19, p20, p21, p22, p23, p24, p25, p26, p27, p28, p29, p30, p31, p32, p33, p34, p35 =>
    bif Decidable.decide (p11 < p10) then
      bif Decidable.decide ((0 : Int) ≤ p11) then
        bif Decidable.decide (p11 < (↑p30.length : Int)) then
          bif Decidable.decide ((0 : Int) ≤ p4) then
            bif Decidable.decide (p4 < (↑p28.length : Int)) then
              bif p28.getD p4.toNat Bool.false then
                bif (p30.getD p11.toNat ((0 : Int), (0 : Int))).1 == p1 && ((p30.getD p11.toNat ((0 : Int), (0 : Int))).2 == p3 && Bool.true) then
                  some (Bool.false)
                else
                  tendrillaw07_ArenaPinned_6_L122x5 k (p0) (p1) (p2) (p3) (p4) (p5) (p6) (p7) (p8) (p9) (p10) (Go.RowKit.wrap64 (p11 + (1 : Int))) (p12) (p13) (p14) (p15) (p16) (p17) (p18) (p19) (p20) (p21) (p22) (p23) (p24) (p25) (p26) (p27) (p28) (p29) (p30) (p31) (p32) (p33) (p34) (p35)
              else
                tendrillaw07_ArenaPinned_6_L122x5 k (p0) (p1) (p2) (p3) (p4) (p5) (p6) (p7) (p8) (p9) (p10) (Go.RowKit.wrap64 (p11 + (1 : Int))) (p12) (p13) (p14) (p15) (p16) (p17) (p18) (p19) (p20) (p21) (p22) (p23) (p24) (p25) (p26) (p27) (p28) (p29) (p30) (p31) (p32) (p33) (p34) (p35)
            else
              none
          else
            none
        else
          none
      else
        none
    else
      tendrillaw07_ArenaPinned_6_L116 k (p0) (p1) (p2) (p3) (p5) (p6) (p7) (p8) (Go.RowKit.wrap64 (p9 + (1 : Int))) (p12) (p13) (p14) (p15) (p16) (p17) (p18) (p19) (p20) (p21) (p22) (p23) (p24) (p25) (p26) (p27) (p28) (p29) (p30) (p31) (p32) (p33) (p34) (p35)
end
def tendrillaw07_ArenaPinned_6_K (K : Nat) (x : (Int × Int × Int × Int × Int) × List Int) : Option (Bool) :=
  (tendrillaw07_live (())).bind fun r0 =>
  bif !r0 then
    some (Bool.false)
  else
    bif Decidable.decide ((120 : Int) < (↑(List.length x.2) : Int)) then
      some (Bool.true)
    else
      (arena_New (((x.fst.1, x.fst.snd.1, x.fst.snd.snd.1, x.fst.snd.snd.snd.1, x.fst.snd.snd.snd.2), (6 : Int)))).bind fun r1 =>
      bif r1.2 != (0 : Int) then
        some ((↑(List.length r1.fst.snd.snd.snd.2) : Int) == (0 : Int))
      else
        tendrillaw07_ArenaPinned_6_L26 K ((6 : Int)) (x.2) ((↑(List.length x.2) : Int)) ((0 : Int)) (r1.fst.1) (r1.fst.snd.1) (r1.fst.snd.snd.fst.fst.1) (r1.fst.snd.snd.fst.fst.snd.1) (r1.fst.snd.snd.fst.fst.snd.snd.1) (r1.fst.snd.snd.fst.fst.snd.snd.2) (r1.fst.snd.snd.fst.snd.fst.1) (r1.fst.snd.snd.fst.snd.fst.snd.1) (r1.fst.snd.snd.fst.snd.fst.snd.snd.1) (r1.fst.snd.snd.fst.snd.fst.snd.snd.2) (r1.fst.snd.snd.fst.snd.snd.1) (r1.fst.snd.snd.fst.snd.snd.snd.1) (r1.fst.snd.snd.fst.snd.snd.snd.snd.1) (r1.fst.snd.snd.fst.snd.snd.snd.snd.2) (r1.fst.snd.snd.snd.1) (r1.fst.snd.snd.snd.2) (List.replicate (Int.toNat (6 : Int)) Bool.false) ([]) ([]) ([]) ([]) ([]) ([]) ([])
def tendrillaw07_ArenaPinned_6 (x : (Int × (Int × (Int × (Int × Int)))) × (List Int)) : Option (Bool) := tendrillaw07_ArenaPinned_6_K 2000000 x
def tendrillaw07_ArenaPinned_6_S : Sig := ⟨[⟨true, (.pair .int (.pair .int (.pair .int (.pair .int .int))))⟩, ⟨false, (.sl .int)⟩], [⟨false, .bool⟩], false, tendrillaw07_ArenaPinned_6⟩
end Go.Proofs.YtkdohmgacodhjaaFn
