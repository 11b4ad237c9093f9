/- LatchTells: latch.Check, Held and Version come to what the document's come to, for every word; no condition. -/
import Derived.Test.YtfnkomlakgiicabPLatchTellsx1
namespace Go.Proofs.Ytfnkomlakgiicab.Pure
open Go.RowKit Go.Proofs.Ytfnkomlakgiicab.PLatchTells Go.Proofs.YtfnkomlakgiicabW.PrintWords Go.Proofs.YtfnkomlakgiicabW.PrintLast

theorem b64 {n : Int} (h : (Lit.int .i64 n).wf = true) : -9223372036854775808 ≤ n ∧ n ≤ 9223372036854775807 := by
  simp [Lit.wf, IntKind.min, IntKind.max, IntKind.signed, IntKind.bits] at h
  omega
theorem and1 (n : Int) (h0 : 0 ≤ n) (h1 : n < 9223372036854775808) : Go.bits .and .i64 n 1 = n % 2 :=
  bits_mask .i64 63 (by decide) (fun m a b => by rw [IntKind.wrap_i64]; omega) 1 (by decide) n h0 h1
theorem or1 (n : Int) (h0 : 0 ≤ n) (h1 : n < 9223372036854775808) (he : n % 2 = 0) : Go.bits .or .i64 n 1 = n + 1 :=
  bits_join .i64 63 (by decide) (fun m a b => by rw [IntKind.wrap_i64]; omega) 1 n 1 h0 (by omega) h1 (by omega) (by decide) (by decide)
theorem chk_ok (w : Int) (h : 0 ≤ w ∧ w ≤ 4611686018427387904) : latch_Check.f w = some 0 := by
  unfold latch_Check.f
  rw [if_neg (by omega), if_neg (by omega)]
theorem chk_no (w : Int) (h : ¬ (0 ≤ w ∧ w ≤ 4611686018427387904)) : latch_Check.f w = some 1 := by
  unfold latch_Check.f
  repeat' split
  all_goals first | rfl | (exfalso; omega)
theorem held_odd (w : Int) (h : 0 ≤ w ∧ w ≤ 4611686018427387904) (ho : w % 2 = 1) : latch_Held.f w = some true := by
  unfold latch_Held.f
  rw [chk_ok w h]
  simp only [Option.bind_some, if_true]
  rw [and1 w (by omega) (by omega), ho]
  rfl
theorem held_even (w : Int) (h : 0 ≤ w ∧ w ≤ 4611686018427387904) (ho : w % 2 = 0) : latch_Held.f w = some false := by
  unfold latch_Held.f
  rw [chk_ok w h]
  simp only [Option.bind_some, if_true]
  rw [and1 w (by omega) (by omega), ho]
  rfl
theorem held_no (w : Int) (h : ¬ (0 ≤ w ∧ w ≤ 4611686018427387904)) : latch_Held.f w = some false := by
  unfold latch_Held.f
  rw [chk_no w h]
  rfl
theorem try_ok (w : Int) (h : 0 ≤ w ∧ w < 4611686018427387904) (he : w % 2 = 0) : latch_Try.f w = some (w + 1, true) := by
  unfold latch_Try.f
  rw [chk_ok w (by omega)]
  simp only [Option.bind_some, if_true]
  rw [held_even w (by omega) he]
  simp only [Option.bind_some]
  rw [if_neg (by decide), if_neg (by omega), or1 w (by omega) (by omega) he]
theorem try_odd (w : Int) (h : 0 ≤ w ∧ w ≤ 4611686018427387904) (ho : w % 2 = 1) : latch_Try.f w = some (w, false) := by
  unfold latch_Try.f
  rw [chk_ok w h]
  simp only [Option.bind_some, if_true]
  rw [held_odd w h ho]
  rfl
theorem try_last : latch_Try.f 4611686018427387904 = some (4611686018427387904, false) := by
  unfold latch_Try.f
  rw [chk_ok _ (by omega)]
  simp only [Option.bind_some, if_true]
  rw [held_even _ (by omega) (by omega)]
  rfl
theorem try_no (w : Int) (h : ¬ (0 ≤ w ∧ w ≤ 4611686018427387904)) : latch_Try.f w = some (w, false) := by
  unfold latch_Try.f
  rw [chk_no w h]
  rfl
theorem free_odd (w : Int) (h : 0 ≤ w ∧ w ≤ 4611686018427387904) (ho : w % 2 = 1) : latch_Free.f w = some (w + 1, 0) := by
  unfold latch_Free.f
  rw [chk_ok w h]
  simp only [Option.bind_some, if_true]
  rw [held_odd w h ho]
  have e : wrap64 (w + 1) = w + 1 := by unfold wrap64; omega
  simp only [Option.bind_some, if_true]
  rw [e]
theorem free_even (w : Int) (h : 0 ≤ w ∧ w ≤ 4611686018427387904) (ho : w % 2 = 0) : latch_Free.f w = some (0, 2) := by
  unfold latch_Free.f
  rw [chk_ok w h]
  simp only [Option.bind_some, if_true]
  rw [held_even w h ho]
  rfl
theorem free_no (w : Int) (h : ¬ (0 ≤ w ∧ w ≤ 4611686018427387904)) : latch_Free.f w = some (0, 1) := by
  unfold latch_Free.f
  rw [chk_no w h]
  rfl
theorem ver_ok (w : Int) (h : 0 ≤ w ∧ w ≤ 4611686018427387904) : latch_Version.f w = some (w / 2) := by
  unfold latch_Version.f
  rw [chk_ok w h]
  rfl
theorem ver_no (w : Int) (h : ¬ (0 ≤ w ∧ w ≤ 4611686018427387904)) : latch_Version.f w = some (-1) := by
  unfold latch_Version.f
  rw [chk_no w h]
  rfl
theorem live_ok : tendrillaw08_live.f = some true := by
  unfold tendrillaw08_live.f
  rw [try_ok 4 (by omega) (by omega), free_odd 5 (by omega) (by omega)]
  simp only [Option.bind_some]
  rw [if_pos (by decide), if_pos (by decide), if_pos (by decide), if_pos (by decide), ver_ok 6 (by omega)]
  simp only [Option.bind_some]
  rw [if_pos (by decide), held_odd 5 (by omega) (by omega)]
  rfl

theorem rchk_ok (w : Int) (h : 0 ≤ w ∧ w ≤ 4611686018427387904) : tendrilref08_Check.f w = some 0 := by
  unfold tendrilref08_Check.f
  rw [if_neg (by omega), if_neg (by omega)]
theorem rchk_no (w : Int) (h : ¬ (0 ≤ w ∧ w ≤ 4611686018427387904)) : tendrilref08_Check.f w = some 1 := by
  unfold tendrilref08_Check.f
  repeat' split
  all_goals first | rfl | (exfalso; omega)

theorem rheld (w : Int) (h : 0 ≤ w ∧ w ≤ 4611686018427387904) : tendrilref08_Held.f w = some (w % 2 == 1) := by
  unfold tendrilref08_Held.f
  rw [rchk_ok w h]
  simp only [Option.bind_some, if_true]
  rw [Int.tmod_eq_emod_of_nonneg (by omega)]
theorem rver (w : Int) (h : 0 ≤ w ∧ w ≤ 4611686018427387904) : tendrilref08_Version.f w = some (w / 2) := by
  unfold tendrilref08_Version.f
  rw [rchk_ok w h]
  simp only [Option.bind_some, if_true]
  have e : wrap64 (Int.tdiv w 2) = w / 2 := by
    rw [Int.tdiv_eq_ediv_of_nonneg (by omega)]
    unfold wrap64; omega
  rw [e]

theorem LatchTells : tendrillaw08_LatchTells.Pure := by
  intro w _
  unfold tendrillaw08_LatchTells.f
  rw [live_ok]
  simp only [Option.bind_some, if_true]
  by_cases h : 0 ≤ w ∧ w ≤ 4611686018427387904
  · rw [chk_ok w h, rchk_ok w h]
    simp only [Option.bind_some, if_true]
    rw [rheld w h, ver_ok w h, rver w h]
    by_cases ho : w % 2 = 1
    · rw [held_odd w h ho, ho]
      simp
    · have he : w % 2 = 0 := by omega
      rw [held_even w h he, he]
      simp
  · rw [chk_no w h, rchk_no w h]
    simp only [Option.bind_some, if_true]
    rw [held_no w h, ver_no w h]
    unfold tendrilref08_Held.f tendrilref08_Version.f
    rw [rchk_no w h]
    rfl

end Go.Proofs.Ytfnkomlakgiicab.Pure
