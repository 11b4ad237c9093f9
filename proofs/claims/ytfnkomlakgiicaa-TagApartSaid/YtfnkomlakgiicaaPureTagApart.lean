/- TagApart: two references are the same just if slot and generation are, and the later generation's is the greater one; no condition. -/
import Derived.Test.YtfnkomlakgiicaaPTagApartx1
namespace Go.Proofs.Ytfnkomlakgiicaa.Pure
open Go.RowKit Go.Proofs.Ytfnkomlakgiicaa.PTagApart Go.Proofs.YtfnkomlakgiicaaW.PrintWords Go.Proofs.YtfnkomlakgiicaaW.PrintLast

theorem b64 {n : Int} (h : (Lit.int .i64 n).wf = true) : -9223372036854775808 ≤ n ∧ n ≤ 9223372036854775807 := by
  simp [Lit.wf, IntKind.min, IntKind.max, IntKind.signed, IntKind.bits] at h
  omega
theorem and1023 (n : Int) (h0 : 0 ≤ n) (h1 : n < 9223372036854775808) : Go.bits .and .i64 n 1023 = n % 1024 :=
  bits_mask .i64 63 (by decide) (fun m a b => by rw [IntKind.wrap_i64]; omega) 10 (by decide) n h0 h1
theorem pack_ok (s g : Int) (h : 0 ≤ s ∧ s < 1024 ∧ 0 ≤ g ∧ g < 1099511627776) : tag_Pack.f s g = some (g * 1024 + s + 1, 0) := by
  unfold tag_Pack.f
  rw [if_neg (by omega), if_neg (by omega), if_neg (by omega), if_neg (by omega)]
  have e : wrap64 (wrap64 (wrap64 (g * 1024) + s) + 1) = g * 1024 + s + 1 := by unfold wrap64; omega
  rw [e]
theorem pack_no (s g : Int) (h : ¬ (0 ≤ s ∧ s < 1024 ∧ 0 ≤ g ∧ g < 1099511627776)) : tag_Pack.f s g = some (0, 1) := by
  unfold tag_Pack.f
  repeat' split
  all_goals first | rfl | (exfalso; omega)
theorem live_ok : tendrillaw01_live.f = some true := by
  unfold tendrillaw01_live.f
  rw [pack_ok 3 2 (by omega)]
  rfl

theorem TagApart : tendrillaw01_TagApart.Pure := by
  intro a b c d _ _ _ _
  unfold tendrillaw01_TagApart.f
  rw [live_ok]
  simp only [Option.bind_some, if_true]
  by_cases h : 0 ≤ a ∧ a < 1024 ∧ 0 ≤ b ∧ b < 1099511627776
  · rw [pack_ok a b h]
    by_cases h2 : 0 ≤ c ∧ c < 1024 ∧ 0 ≤ d ∧ d < 1099511627776
    · rw [pack_ok c d h2]
      simp only [Option.bind_some, if_true]
      by_cases e1 : a = c
      · rw [if_pos e1]
        have e2 : (b * 1024 + a + 1 == d * 1024 + c + 1) = (b == d) := by
          rw [Bool.eq_iff_iff, beq_iff_eq, beq_iff_eq]; omega
        rw [e2, if_pos (by simp)]
        by_cases e3 : b ≤ d
        · rw [if_pos e3]
        · rw [if_neg e3, decide_eq_true (by omega)]
      · rw [if_neg e1]
        have e2 : (b * 1024 + a + 1 == d * 1024 + c + 1) = false := by
          rw [beq_eq_false_iff_ne]; omega
        rw [e2, if_pos (by simp)]
        by_cases e3 : b ≤ d
        · rw [if_pos e3]
        · rw [if_neg e3, decide_eq_true (by omega)]
    · rw [pack_no c d h2]
      simp
  · rw [pack_no a b h]
    by_cases h2 : 0 ≤ c ∧ c < 1024 ∧ 0 ≤ d ∧ d < 1099511627776
    · rw [pack_ok c d h2]
      simp
    · rw [pack_no c d h2]
      simp

end Go.Proofs.Ytfnkomlakgiicaa.Pure
