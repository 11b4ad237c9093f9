/- LatchAlone: who tries and is told true holds the latch alone till it is freed, and then it has another version; no condition. -/
import Derived.Test.YtfnkomlakgiicabPLatchAlonex1
namespace Go.Proofs.Ytfnkomlakgiicab.Pure
open Go.RowKit Go.Proofs.Ytfnkomlakgiicab.PLatchAlone Go.Proofs.YtfnkomlakgiicabW.PrintWords Go.Proofs.YtfnkomlakgiicabW.PrintLast

theorem b64 {n : Int} (h : (Lit.int .i64 n).wf = true) : -9223372036854775808 ≤ n ∧ n ≤ 9223372036854775807 := by
  simp [Lit.wf, IntKind.min, IntKind.max, IntKind.signed, IntKind.bits] at h
  omega
theorem and1 (n : Int) (h0 : 0 ≤ n) (h1 : n < 9223372036854775808) : Go.bits .and .i64 n 1 = n % 2 :=
  bits_mask .i64 63 (by decide) (fun m a b => by rw [IntKind.wrap_i64]; omega) 1 (by decide) n h0 h1
theorem or1 (n : Int) (h0 : 0 ≤ n) (h1 : n < 9223372036854775808) (he : n % 2 = 0) : Go.bits .or .i64 n 1 = n + 1 :=
  bits_join .i64 63 (by decide) (fun m a b => by rw [IntKind.wrap_i64]; omega) 1 n 1 h0 (by omega) h1 (by omega) (by decide) (by decide)
theorem chk_ok (w : Int) (h : 0 ≤ w ∧ w ≤ 4611686018427387904) : latch_Check.f w = some 0 := by
  unfold latch_Check.f
  rw [if_neg (by omega), if_neg (by omega)]
theorem chk_no (w : Int) (h : ¬ (0 ≤ w ∧ w ≤ 4611686018427387904)) : latch_Check.f w = some 1 := by
  unfold latch_Check.f
  repeat' split
  all_goals first | rfl | (exfalso; omega)
theorem held_odd (w : Int) (h : 0 ≤ w ∧ w ≤ 4611686018427387904) (ho : w % 2 = 1) : latch_Held.f w = some true := by
  unfold latch_Held.f
  rw [chk_ok w h]
  simp only [Option.bind_some, if_true]
  rw [and1 w (by omega) (by omega), ho]
  rfl
theorem held_even (w : Int) (h : 0 ≤ w ∧ w ≤ 4611686018427387904) (ho : w % 2 = 0) : latch_Held.f w = some false := by
  unfold latch_Held.f
  rw [chk_ok w h]
  simp only [Option.bind_some, if_true]
  rw [and1 w (by omega) (by omega), ho]
  rfl
theorem held_no (w : Int) (h : ¬ (0 ≤ w ∧ w ≤ 4611686018427387904)) : latch_Held.f w = some false := by
  unfold latch_Held.f
  rw [chk_no w h]
  rfl
theorem try_ok (w : Int) (h : 0 ≤ w ∧ w < 4611686018427387904) (he : w % 2 = 0) : latch_Try.f w = some (w + 1, true) := by
  unfold latch_Try.f
  rw [chk_ok w (by omega)]
  simp only [Option.bind_some, if_true]
  rw [held_even w (by omega) he]
  simp only [Option.bind_some]
  rw [if_neg (by decide), if_neg (by omega), or1 w (by omega) (by omega) he]
theorem try_odd (w : Int) (h : 0 ≤ w ∧ w ≤ 4611686018427387904) (ho : w % 2 = 1) : latch_Try.f w = some (w, false) := by
  unfold latch_Try.f
  rw [chk_ok w h]
  simp only [Option.bind_some, if_true]
  rw [held_odd w h ho]
  rfl
theorem try_last : latch_Try.f 4611686018427387904 = some (4611686018427387904, false) := by
  unfold latch_Try.f
  rw [chk_ok _ (by omega)]
  simp only [Option.bind_some, if_true]
  rw [held_even _ (by omega) (by omega)]
  rfl
theorem try_no (w : Int) (h : ¬ (0 ≤ w ∧ w ≤ 4611686018427387904)) : latch_Try.f w = some (w, false) := by
  unfold latch_Try.f
  rw [chk_no w h]
  rfl
theorem free_odd (w : Int) (h : 0 ≤ w ∧ w ≤ 4611686018427387904) (ho : w % 2 = 1) : latch_Free.f w = some (w + 1, 0) := by
  unfold latch_Free.f
  rw [chk_ok w h]
  simp only [Option.bind_some, if_true]
  rw [held_odd w h ho]
  have e : wrap64 (w + 1) = w + 1 := by unfold wrap64; omega
  simp only [Option.bind_some, if_true]
  rw [e]
theorem free_even (w : Int) (h : 0 ≤ w ∧ w ≤ 4611686018427387904) (ho : w % 2 = 0) : latch_Free.f w = some (0, 2) := by
  unfold latch_Free.f
  rw [chk_ok w h]
  simp only [Option.bind_some, if_true]
  rw [held_even w h ho]
  rfl
theorem free_no (w : Int) (h : ¬ (0 ≤ w ∧ w ≤ 4611686018427387904)) : latch_Free.f w = some (0, 1) := by
  unfold latch_Free.f
  rw [chk_no w h]
  rfl
theorem ver_ok (w : Int) (h : 0 ≤ w ∧ w ≤ 4611686018427387904) : latch_Version.f w = some (w / 2) := by
  unfold latch_Version.f
  rw [chk_ok w h]
  rfl
theorem ver_no (w : Int) (h : ¬ (0 ≤ w ∧ w ≤ 4611686018427387904)) : latch_Version.f w = some (-1) := by
  unfold latch_Version.f
  rw [chk_no w h]
  rfl
theorem live_ok : tendrillaw08_live.f = some true := by
  unfold tendrillaw08_live.f
  rw [try_ok 4 (by omega) (by omega), free_odd 5 (by omega) (by omega)]
  simp only [Option.bind_some]
  rw [if_pos (by decide), if_pos (by decide), if_pos (by decide), if_pos (by decide), ver_ok 6 (by omega)]
  simp only [Option.bind_some]
  rw [if_pos (by decide), held_odd 5 (by omega) (by omega)]
  rfl

theorem rounds (w a : Int) (hw : 0 ≤ w ∧ w < 4611686018427387904) (he : w % 2 = 0) (ha : a = w + 1) (m : Int) (hm : 0 ≤ m ∧ m < 5) (d : Nat) :
    ∀ (k : Nat) (i : Int), 0 ≤ i → i ≤ m → m - i = d → d < k → tendrillaw08_LatchAlone.l0 k w a m i = some true := by
  subst ha
  induction d with
  | zero =>
    intro k i h0 h1 hd hk
    obtain ⟨k, rfl⟩ : ∃ j, k = j + 1 := ⟨k - 1, by omega⟩
    simp only [tendrillaw08_LatchAlone.l0]
    rw [if_neg (by omega), free_odd _ (by omega) (by omega)]
    simp only [Option.bind_some, if_true]
    rw [held_even _ (by omega) (by omega)]
    simp only [Option.bind_some]
    rw [if_neg (by decide), ver_ok _ (by omega), ver_ok _ (by omega)]
    simp only [Option.bind_some]
    have e : wrap64 (w / 2 + 1) = w / 2 + 1 := by unfold wrap64; omega
    rw [e]
    simp only [Option.some.injEq, beq_iff_eq]
    omega
  | succ d ih =>
    intro k i h0 h1 hd hk
    obtain ⟨k, rfl⟩ : ∃ j, k = j + 1 := ⟨k - 1, by omega⟩
    simp only [tendrillaw08_LatchAlone.l0]
    rw [if_pos (by omega), try_odd _ (by omega) (by omega)]
    simp only [Option.bind_some]
    rw [if_neg (by decide), if_pos trivial]
    have e : wrap64 (i + 1) = i + 1 := by unfold wrap64; omega
    rw [e]
    exact ih k (i + 1) (by omega) (by omega) (by omega) (by omega)

theorem LatchAlone : tendrillaw08_LatchAlone.Pure := by
  intro w t _ ht
  have ht0 : 0 ≤ t ∧ t ≤ 255 := by
    simp [Lit.wf, IntKind.min, IntKind.max, IntKind.signed, IntKind.bits] at ht
    omega
  refine ⟨8, ?_⟩
  unfold tendrillaw08_LatchAlone.f
  rw [live_ok]
  simp only [Option.bind_some, if_true]
  by_cases h : (0 ≤ w ∧ w < 4611686018427387904) ∧ w % 2 = 0
  · obtain ⟨h, he⟩ := h
    rw [try_ok w h he]
    simp only [Option.bind_some, if_true]
    rw [held_odd _ (by omega) (by omega)]
    simp only [Option.bind_some, if_true]
    rw [held_even w (by omega) he]
    simp only [Option.bind_some, tendrillaw08_LatchAlone.j0]
    rw [if_neg (by decide)]
    have e : Int.tmod (wrap64 t) 5 = t % 5 := by
      have e1 : wrap64 t = t := by unfold wrap64; omega
      rw [e1, Int.tmod_eq_emod_of_nonneg (by omega)]
    rw [e]
    exact rounds w (w + 1) h he rfl (t % 5) (by omega) (t % 5).toNat 7 0 (by omega) (by omega) (by omega) (by omega)
  · have hf : latch_Try.f w = some (w, false) := by
      by_cases h1 : 0 ≤ w ∧ w ≤ 4611686018427387904
      · by_cases h2 : w % 2 = 1
        · exact try_odd w h1 h2
        · obtain rfl : w = 4611686018427387904 := by omega
          exact try_last
      · exact try_no w h1
    rw [hf]
    simp

end Go.Proofs.Ytfnkomlakgiicab.Pure
