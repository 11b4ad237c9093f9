/- TagRange: a number refers to something just if it lies between 1 and the last reference; no condition. -/
import Derived.Test.YtfnkomlakgiicaaPTagRangex1
namespace Go.Proofs.Ytfnkomlakgiicaa.Pure
open Go.RowKit Go.Proofs.Ytfnkomlakgiicaa.PTagRange Go.Proofs.YtfnkomlakgiicaaW.PrintWords Go.Proofs.YtfnkomlakgiicaaW.PrintLast

theorem b64 {n : Int} (h : (Lit.int .i64 n).wf = true) : -9223372036854775808 ≤ n ∧ n ≤ 9223372036854775807 := by
  simp [Lit.wf, IntKind.min, IntKind.max, IntKind.signed, IntKind.bits] at h
  omega
theorem and1023 (n : Int) (h0 : 0 ≤ n) (h1 : n < 9223372036854775808) : Go.bits .and .i64 n 1023 = n % 1024 :=
  bits_mask .i64 63 (by decide) (fun m a b => by rw [IntKind.wrap_i64]; omega) 10 (by decide) n h0 h1
theorem pack_ok (s g : Int) (h : 0 ≤ s ∧ s < 1024 ∧ 0 ≤ g ∧ g < 1099511627776) : tag_Pack.f s g = some (g * 1024 + s + 1, 0) := by
  unfold tag_Pack.f
  rw [if_neg (by omega), if_neg (by omega), if_neg (by omega), if_neg (by omega)]
  have e : wrap64 (wrap64 (wrap64 (g * 1024) + s) + 1) = g * 1024 + s + 1 := by unfold wrap64; omega
  rw [e]
theorem pack_no (s g : Int) (h : ¬ (0 ≤ s ∧ s < 1024 ∧ 0 ≤ g ∧ g < 1099511627776)) : tag_Pack.f s g = some (0, 1) := by
  unfold tag_Pack.f
  repeat' split
  all_goals first | rfl | (exfalso; omega)
theorem live_ok : tendrillaw01_live.f = some true := by
  unfold tendrillaw01_live.f
  rw [pack_ok 3 2 (by omega)]
  rfl

theorem unpack_ok (n : Int) (h : 1 ≤ n ∧ n ≤ 1125899906842624) : tag_Unpack.f n = some ((n - 1) % 1024, (n - 1) / 1024, 0) := by
  unfold tag_Unpack.f
  have e : wrap64 (n - 1) = n - 1 := by unfold wrap64; omega
  rw [e, if_neg (by omega), if_neg (by omega), and1023 _ (by omega) (by omega)]
theorem unpack_no (n : Int) (hb : -9223372036854775808 ≤ n ∧ n ≤ 9223372036854775807) (h : ¬ (1 ≤ n ∧ n ≤ 1125899906842624)) : tag_Unpack.f n = some (0, 0, 1) := by
  unfold tag_Unpack.f
  by_cases h1 : n < 1
  · rw [if_pos h1]
  · have e : wrap64 (n - 1) = n - 1 := by unfold wrap64; omega
    rw [e, if_neg h1, if_pos (by omega)]

theorem TagRange : tendrillaw01_TagRange.Pure := by
  intro n hn
  unfold tendrillaw01_TagRange.f
  rw [live_ok]
  simp only [Option.bind_some, if_true]
  rw [pack_ok 1023 1099511627775 (by omega)]
  simp only [Option.bind_some, if_true]
  by_cases h : 1 ≤ n ∧ n ≤ 1125899906842624
  · rw [unpack_ok n h]
    simp only [Option.bind_some]
    rw [if_pos h.1, decide_eq_true (show n ≤ 1099511627775 * 1024 + 1023 + 1 by omega), if_pos (by decide), if_pos (by omega), if_pos (by omega), decide_eq_true (by omega)]
  · rw [unpack_no n (b64 hn) h]
    simp only [Option.bind_some]
    by_cases h1 : n ≥ 1
    · rw [if_pos h1, decide_eq_false (show ¬ n ≤ 1099511627775 * 1024 + 1023 + 1 by omega)]
      decide
    · rw [if_neg h1]
      decide

end Go.Proofs.Ytfnkomlakgiicaa.Pure
