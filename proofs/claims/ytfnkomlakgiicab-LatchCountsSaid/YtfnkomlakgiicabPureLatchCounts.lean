/- LatchCounts: as often as it was latched and freed its version is more; no condition. -/
import Derived.Test.YtfnkomlakgiicabPLatchCountsx1
namespace Go.Proofs.Ytfnkomlakgiicab.Pure
open Go.RowKit Go.Proofs.Ytfnkomlakgiicab.PLatchCounts Go.Proofs.YtfnkomlakgiicabW.PrintWords Go.Proofs.YtfnkomlakgiicabW.PrintLast

theorem b64 {n : Int} (h : (Lit.int .i64 n).wf = true) : -9223372036854775808 ≤ n ∧ n ≤ 9223372036854775807 := by
  simp [Lit.wf, IntKind.min, IntKind.max, IntKind.signed, IntKind.bits] at h
  omega
theorem and1 (n : Int) (h0 : 0 ≤ n) (h1 : n < 9223372036854775808) : Go.bits .and .i64 n 1 = n % 2 :=
  bits_mask .i64 63 (by decide) (fun m a b => by rw [IntKind.wrap_i64]; omega) 1 (by decide) n h0 h1
theorem or1 (n : Int) (h0 : 0 ≤ n) (h1 : n < 9223372036854775808) (he : n % 2 = 0) : Go.bits .or .i64 n 1 = n + 1 :=
  bits_join .i64 63 (by decide) (fun m a b => by rw [IntKind.wrap_i64]; omega) 1 n 1 h0 (by omega) h1 (by omega) (by decide) (by decide)
theorem chk_ok (w : Int) (h : 0 ≤ w ∧ w ≤ 4611686018427387904) : latch_Check.f w = some 0 := by
  unfold latch_Check.f
  rw [if_neg (by omega), if_neg (by omega)]
theorem chk_no (w : Int) (h : ¬ (0 ≤ w ∧ w ≤ 4611686018427387904)) : latch_Check.f w = some 1 := by
  unfold latch_Check.f
  repeat' split
  all_goals first | rfl | (exfalso; omega)
theorem held_odd (w : Int) (h : 0 ≤ w ∧ w ≤ 4611686018427387904) (ho : w % 2 = 1) : latch_Held.f w = some true := by
  unfold latch_Held.f
  rw [chk_ok w h]
  simp only [Option.bind_some, if_true]
  rw [and1 w (by omega) (by omega), ho]
  rfl
theorem held_even (w : Int) (h : 0 ≤ w ∧ w ≤ 4611686018427387904) (ho : w % 2 = 0) : latch_Held.f w = some false := by
  unfold latch_Held.f
  rw [chk_ok w h]
  simp only [Option.bind_some, if_true]
  rw [and1 w (by omega) (by omega), ho]
  rfl
theorem held_no (w : Int) (h : ¬ (0 ≤ w ∧ w ≤ 4611686018427387904)) : latch_Held.f w = some false := by
  unfold latch_Held.f
  rw [chk_no w h]
  rfl
theorem try_ok (w : Int) (h : 0 ≤ w ∧ w < 4611686018427387904) (he : w % 2 = 0) : latch_Try.f w = some (w + 1, true) := by
  unfold latch_Try.f
  rw [chk_ok w (by omega)]
  simp only [Option.bind_some, if_true]
  rw [held_even w (by omega) he]
  simp only [Option.bind_some]
  rw [if_neg (by decide), if_neg (by omega), or1 w (by omega) (by omega) he]
theorem try_odd (w : Int) (h : 0 ≤ w ∧ w ≤ 4611686018427387904) (ho : w % 2 = 1) : latch_Try.f w = some (w, false) := by
  unfold latch_Try.f
  rw [chk_ok w h]
  simp only [Option.bind_some, if_true]
  rw [held_odd w h ho]
  rfl
theorem try_last : latch_Try.f 4611686018427387904 = some (4611686018427387904, false) := by
  unfold latch_Try.f
  rw [chk_ok _ (by omega)]
  simp only [Option.bind_some, if_true]
  rw [held_even _ (by omega) (by omega)]
  rfl
theorem try_no (w : Int) (h : ¬ (0 ≤ w ∧ w ≤ 4611686018427387904)) : latch_Try.f w = some (w, false) := by
  unfold latch_Try.f
  rw [chk_no w h]
  rfl
theorem free_odd (w : Int) (h : 0 ≤ w ∧ w ≤ 4611686018427387904) (ho : w % 2 = 1) : latch_Free.f w = some (w + 1, 0) := by
  unfold latch_Free.f
  rw [chk_ok w h]
  simp only [Option.bind_some, if_true]
  rw [held_odd w h ho]
  have e : wrap64 (w + 1) = w + 1 := by unfold wrap64; omega
  simp only [Option.bind_some, if_true]
  rw [e]
theorem free_even (w : Int) (h : 0 ≤ w ∧ w ≤ 4611686018427387904) (ho : w % 2 = 0) : latch_Free.f w = some (0, 2) := by
  unfold latch_Free.f
  rw [chk_ok w h]
  simp only [Option.bind_some, if_true]
  rw [held_even w h ho]
  rfl
theorem free_no (w : Int) (h : ¬ (0 ≤ w ∧ w ≤ 4611686018427387904)) : latch_Free.f w = some (0, 1) := by
  unfold latch_Free.f
  rw [chk_no w h]
  rfl
theorem ver_ok (w : Int) (h : 0 ≤ w ∧ w ≤ 4611686018427387904) : latch_Version.f w = some (w / 2) := by
  unfold latch_Version.f
  rw [chk_ok w h]
  rfl
theorem ver_no (w : Int) (h : ¬ (0 ≤ w ∧ w ≤ 4611686018427387904)) : latch_Version.f w = some (-1) := by
  unfold latch_Version.f
  rw [chk_no w h]
  rfl
theorem live_ok : tendrillaw08_live.f = some true := by
  unfold tendrillaw08_live.f
  rw [try_ok 4 (by omega) (by omega), free_odd 5 (by omega) (by omega)]
  simp only [Option.bind_some]
  rw [if_pos (by decide), if_pos (by decide), if_pos (by decide), if_pos (by decide), ver_ok 6 (by omega)]
  simp only [Option.bind_some]
  rw [if_pos (by decide), held_odd 5 (by omega) (by omega)]
  rfl

theorem rounds (w m : Int) (hw : 0 ≤ w ∧ w ≤ 2305843009213693952) (he : w % 2 = 0) (hm : 0 ≤ m ∧ m ≤ 50) (d : Nat) :
    ∀ (k : Nat) (i now : Int), 0 ≤ i → i ≤ m → m - i = d → d < k → now = w + 2 * i → tendrillaw08_LatchCounts.l0 k w m now m i = some true := by
  induction d with
  | zero =>
    intro k i now h0 h1 hd hk hn
    obtain ⟨k, rfl⟩ : ∃ j, k = j + 1 := ⟨k - 1, by omega⟩
    simp only [tendrillaw08_LatchCounts.l0]
    rw [if_neg (by omega), ver_ok _ (by omega), ver_ok _ (by omega)]
    simp only [Option.bind_some]
    have e1 : wrap64 (w / 2 + m) = w / 2 + m := by unfold wrap64; omega
    have e2 : wrap64 (w + wrap64 (2 * m)) = w + 2 * m := by unfold wrap64; omega
    rw [e1, e2, if_pos (by omega)]
    simp only [Option.some.injEq, beq_iff_eq]
    omega
  | succ d ih =>
    intro k i now h0 h1 hd hk hn
    obtain ⟨k, rfl⟩ : ∃ j, k = j + 1 := ⟨k - 1, by omega⟩
    simp only [tendrillaw08_LatchCounts.l0]
    rw [if_pos (by omega), try_ok _ (by omega) (by omega)]
    simp only [Option.bind_some]
    rw [free_odd _ (by omega) (by omega)]
    simp only [Option.bind_some, if_true]
    have e : wrap64 (i + 1) = i + 1 := by unfold wrap64; omega
    rw [e]
    exact ih k (i + 1) (now + 1 + 1) (by omega) (by omega) (by omega) (by omega) (by omega)

theorem LatchCounts : tendrillaw08_LatchCounts.Pure := by
  intro w m hw hm
  have bw := b64 hw
  have bm := b64 hm
  refine ⟨60, ?_⟩
  unfold tendrillaw08_LatchCounts.f
  rw [live_ok]
  simp only [Option.bind_some, if_true, tendrillaw08_LatchCounts.j0]
  by_cases h1 : w < 0
  · rw [if_pos h1]
  · rw [if_neg h1]
    by_cases h2 : w > 2305843009213693952
    · rw [if_pos h2]
    · rw [if_neg h2]
      have em : Int.tmod w 2 = w % 2 := Int.tmod_eq_emod_of_nonneg (by omega)
      rw [em]
      by_cases h3 : w % 2 = 1
      · rw [if_pos h3]
      · rw [if_neg h3]
        by_cases h4 : m < 0
        · rw [if_pos h4]
        · rw [if_neg h4]
          by_cases h5 : m > 50
          · rw [decide_eq_true h5]
            rfl
          · rw [decide_eq_false h5, if_neg (by decide)]
            exact rounds w m (by omega) (by omega) (by omega) m.toNat 59 0 w (by omega) (by omega) (by omega) (by omega) (by omega)

end Go.Proofs.Ytfnkomlakgiicab.Pure
