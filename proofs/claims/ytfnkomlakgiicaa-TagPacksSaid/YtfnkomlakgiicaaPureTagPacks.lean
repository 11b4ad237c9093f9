/- TagPacks: tag.Pack comes to what the document's Pack comes to, for every slot and generation; no condition. -/
import Derived.Test.YtfnkomlakgiicaaPTagPacksx1
namespace Go.Proofs.Ytfnkomlakgiicaa.Pure
open Go.RowKit Go.Proofs.Ytfnkomlakgiicaa.PTagPacks Go.Proofs.YtfnkomlakgiicaaW.PrintWords Go.Proofs.YtfnkomlakgiicaaW.PrintLast

theorem b64 {n : Int} (h : (Lit.int .i64 n).wf = true) : -9223372036854775808 ≤ n ∧ n ≤ 9223372036854775807 := by
  simp [Lit.wf, IntKind.min, IntKind.max, IntKind.signed, IntKind.bits] at h
  omega
theorem and1023 (n : Int) (h0 : 0 ≤ n) (h1 : n < 9223372036854775808) : Go.bits .and .i64 n 1023 = n % 1024 :=
  bits_mask .i64 63 (by decide) (fun m a b => by rw [IntKind.wrap_i64]; omega) 10 (by decide) n h0 h1
theorem pack_ok (s g : Int) (h : 0 ≤ s ∧ s < 1024 ∧ 0 ≤ g ∧ g < 1099511627776) : tag_Pack.f s g = some (g * 1024 + s + 1, 0) := by
  unfold tag_Pack.f
  rw [if_neg (by omega), if_neg (by omega), if_neg (by omega), if_neg (by omega)]
  have e : wrap64 (wrap64 (wrap64 (g * 1024) + s) + 1) = g * 1024 + s + 1 := by unfold wrap64; omega
  rw [e]
theorem pack_no (s g : Int) (h : ¬ (0 ≤ s ∧ s < 1024 ∧ 0 ≤ g ∧ g < 1099511627776)) : tag_Pack.f s g = some (0, 1) := by
  unfold tag_Pack.f
  repeat' split
  all_goals first | rfl | (exfalso; omega)
theorem live_ok : tendrillaw01_live.f = some true := by
  unfold tendrillaw01_live.f
  rw [pack_ok 3 2 (by omega)]
  rfl

theorem rpack_ok (s g : Int) (h : 0 ≤ s ∧ s < 1024 ∧ 0 ≤ g ∧ g < 1099511627776) : tendrilref01_Pack.f s g = some (g * 1024 + s + 1, 0) := by
  unfold tendrilref01_Pack.f
  rw [if_neg (by omega), if_neg (by omega), if_neg (by omega), if_neg (by omega)]
  have e : wrap64 (wrap64 (1 + wrap64 (1024 * g)) + s) = g * 1024 + s + 1 := by unfold wrap64; omega
  rw [e]
theorem rpack_no (s g : Int) (h : ¬ (0 ≤ s ∧ s < 1024 ∧ 0 ≤ g ∧ g < 1099511627776)) : tendrilref01_Pack.f s g = some (0, 1) := by
  unfold tendrilref01_Pack.f
  repeat' split
  all_goals first | rfl | (exfalso; omega)

theorem TagPacks : tendrillaw01_TagPacks.Pure := by
  intro s g _ _
  unfold tendrillaw01_TagPacks.f
  rw [live_ok]
  simp only [Option.bind_some, if_true]
  by_cases h : 0 ≤ s ∧ s < 1024 ∧ 0 ≤ g ∧ g < 1099511627776
  · rw [pack_ok s g h, rpack_ok s g h]
    simp
  · rw [pack_no s g h, rpack_no s g h]
    simp

end Go.Proofs.Ytfnkomlakgiicaa.Pure
