/- TagUnpacks: tag.Unpack and tag.Next come to what the document's come to, for every number; no condition. -/
import Derived.Test.YtfnkomlakgiicaaPTagUnpacksx1
namespace Go.Proofs.Ytfnkomlakgiicaa.Pure
open Go.RowKit Go.Proofs.Ytfnkomlakgiicaa.PTagUnpacks Go.Proofs.YtfnkomlakgiicaaW.PrintWords Go.Proofs.YtfnkomlakgiicaaW.PrintLast

theorem b64 {n : Int} (h : (Lit.int .i64 n).wf = true) : -9223372036854775808 ≤ n ∧ n ≤ 9223372036854775807 := by
  simp [Lit.wf, IntKind.min, IntKind.max, IntKind.signed, IntKind.bits] at h
  omega
theorem and1023 (n : Int) (h0 : 0 ≤ n) (h1 : n < 9223372036854775808) : Go.bits .and .i64 n 1023 = n % 1024 :=
  bits_mask .i64 63 (by decide) (fun m a b => by rw [IntKind.wrap_i64]; omega) 10 (by decide) n h0 h1
theorem pack_ok (s g : Int) (h : 0 ≤ s ∧ s < 1024 ∧ 0 ≤ g ∧ g < 1099511627776) : tag_Pack.f s g = some (g * 1024 + s + 1, 0) := by
  unfold tag_Pack.f
  rw [if_neg (by omega), if_neg (by omega), if_neg (by omega), if_neg (by omega)]
  have e : wrap64 (wrap64 (wrap64 (g * 1024) + s) + 1) = g * 1024 + s + 1 := by unfold wrap64; omega
  rw [e]
theorem pack_no (s g : Int) (h : ¬ (0 ≤ s ∧ s < 1024 ∧ 0 ≤ g ∧ g < 1099511627776)) : tag_Pack.f s g = some (0, 1) := by
  unfold tag_Pack.f
  repeat' split
  all_goals first | rfl | (exfalso; omega)
theorem live_ok : tendrillaw01_live.f = some true := by
  unfold tendrillaw01_live.f
  rw [pack_ok 3 2 (by omega)]
  rfl

theorem unpack_ok (n : Int) (h : 1 ≤ n ∧ n ≤ 1125899906842624) : tag_Unpack.f n = some ((n - 1) % 1024, (n - 1) / 1024, 0) := by
  unfold tag_Unpack.f
  have e : wrap64 (n - 1) = n - 1 := by unfold wrap64; omega
  rw [e, if_neg (by omega), if_neg (by omega), and1023 _ (by omega) (by omega)]
theorem unpack_no (n : Int) (hb : -9223372036854775808 ≤ n ∧ n ≤ 9223372036854775807) (h : ¬ (1 ≤ n ∧ n ≤ 1125899906842624)) : tag_Unpack.f n = some (0, 0, 1) := by
  unfold tag_Unpack.f
  by_cases h1 : n < 1
  · rw [if_pos h1]
  · have e : wrap64 (n - 1) = n - 1 := by unfold wrap64; omega
    rw [e, if_neg h1, if_pos (by omega)]

theorem next_ok (n : Int) (h : 1 ≤ n ∧ n ≤ 1125899906841600) : tag_Next.f n = some (n + 1024, 0) := by
  unfold tag_Next.f
  rw [unpack_ok n (by omega)]
  simp only [Option.bind_some, if_true]
  have e : wrap64 ((n - 1) / 1024 + 1) = (n - 1) / 1024 + 1 := by unfold wrap64; omega
  rw [e, pack_ok _ _ (by omega)]
  simp only [Option.bind_some]
  have e2 : ((n - 1) / 1024 + 1) * 1024 + (n - 1) % 1024 + 1 = n + 1024 := by omega
  rw [e2]
theorem next_end (n : Int) (h : 1125899906841600 < n ∧ n ≤ 1125899906842624) : tag_Next.f n = some (0, 1) := by
  unfold tag_Next.f
  rw [unpack_ok n (by omega)]
  simp only [Option.bind_some, if_true]
  have e : wrap64 ((n - 1) / 1024 + 1) = (n - 1) / 1024 + 1 := by unfold wrap64; omega
  rw [e, pack_no _ _ (by omega)]
  rfl
theorem next_no (n : Int) (hb : -9223372036854775808 ≤ n ∧ n ≤ 9223372036854775807) (h : ¬ (1 ≤ n ∧ n ≤ 1125899906842624)) : tag_Next.f n = some (0, 1) := by
  unfold tag_Next.f
  rw [unpack_no n hb h]
  rfl

theorem rpack_ok (s g : Int) (h : 0 ≤ s ∧ s < 1024 ∧ 0 ≤ g ∧ g < 1099511627776) : tendrilref01_Pack.f s g = some (g * 1024 + s + 1, 0) := by
  unfold tendrilref01_Pack.f
  rw [if_neg (by omega), if_neg (by omega), if_neg (by omega), if_neg (by omega)]
  have e : wrap64 (wrap64 (1 + wrap64 (1024 * g)) + s) = g * 1024 + s + 1 := by unfold wrap64; omega
  rw [e]
theorem rpack_no (s g : Int) (h : ¬ (0 ≤ s ∧ s < 1024 ∧ 0 ≤ g ∧ g < 1099511627776)) : tendrilref01_Pack.f s g = some (0, 1) := by
  unfold tendrilref01_Pack.f
  repeat' split
  all_goals first | rfl | (exfalso; omega)

theorem runpack_ok (n : Int) (h : 1 ≤ n ∧ n ≤ 1125899906842624) : tendrilref01_Unpack.f n = some ((n - 1) % 1024, (n - 1) / 1024, 0) := by
  unfold tendrilref01_Unpack.f
  have e : wrap64 (n - 1) = n - 1 := by unfold wrap64; omega
  rw [e, if_neg (by omega), if_neg (by omega), Int.tmod_eq_emod_of_nonneg (by omega), Int.tdiv_eq_ediv_of_nonneg (by omega)]
  have e2 : wrap64 ((n - 1) / 1024) = (n - 1) / 1024 := by unfold wrap64; omega
  rw [e2]
theorem runpack_no (n : Int) (h : ¬ (1 ≤ n ∧ n ≤ 1125899906842624)) : tendrilref01_Unpack.f n = some (0, 0, 1) := by
  unfold tendrilref01_Unpack.f
  repeat' split
  all_goals first | rfl | (exfalso; omega)
theorem rnext_ok (n : Int) (h : 1 ≤ n ∧ n ≤ 1125899906841600) : tendrilref01_Next.f n = some (n + 1024, 0) := by
  unfold tendrilref01_Next.f
  rw [runpack_ok n (by omega)]
  simp only [Option.bind_some, if_true]
  have e : wrap64 ((n - 1) / 1024 + 1) = (n - 1) / 1024 + 1 := by unfold wrap64; omega
  rw [e, rpack_ok _ _ (by omega)]
  simp only [Option.bind_some]
  have e2 : ((n - 1) / 1024 + 1) * 1024 + (n - 1) % 1024 + 1 = n + 1024 := by omega
  rw [e2]
theorem rnext_end (n : Int) (h : 1125899906841600 < n ∧ n ≤ 1125899906842624) : tendrilref01_Next.f n = some (0, 1) := by
  unfold tendrilref01_Next.f
  rw [runpack_ok n (by omega)]
  simp only [Option.bind_some, if_true]
  have e : wrap64 ((n - 1) / 1024 + 1) = (n - 1) / 1024 + 1 := by unfold wrap64; omega
  rw [e, rpack_no _ _ (by omega)]
  rfl
theorem rnext_no (n : Int) (h : ¬ (1 ≤ n ∧ n ≤ 1125899906842624)) : tendrilref01_Next.f n = some (0, 1) := by
  unfold tendrilref01_Next.f
  rw [runpack_no n h]
  rfl

theorem TagUnpacks : tendrillaw01_TagUnpacks.Pure := by
  intro n hn
  unfold tendrillaw01_TagUnpacks.f
  rw [live_ok]
  simp only [Option.bind_some, if_true]
  by_cases h : 1 ≤ n ∧ n ≤ 1125899906842624
  · rw [unpack_ok n h, runpack_ok n h]
    simp only [Option.bind_some]
    by_cases h2 : n ≤ 1125899906841600
    · rw [next_ok n (by omega), rnext_ok n (by omega)]
      simp
    · rw [next_end n (by omega), rnext_end n (by omega)]
      simp
  · rw [unpack_no n (b64 hn) h, runpack_no n h, next_no n (b64 hn) h, rnext_no n h]
    simp

end Go.Proofs.Ytfnkomlakgiicaa.Pure
