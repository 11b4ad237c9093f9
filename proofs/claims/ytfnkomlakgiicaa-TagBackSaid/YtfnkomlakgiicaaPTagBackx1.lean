-- PRINTED BY print.sh 35421559b90ae4d0a3588c463048766b98c2df88dd9212a6774a882060cdf62d: not written by this session
import Derived.Test.YtfnkomlakgiicaaPTagBackx0
namespace Go.Proofs.Ytfnkomlakgiicaa.PTagBack
open Go.RowKit Go.Proofs.YtfnkomlakgiicaaW.PrintWords Go.Proofs.YtfnkomlakgiicaaW.PrintLast Go.Proofs.YtfnkomlakgiicaaW.PrintMore
attribute [local go_sem] max2_int min2_int max_two min_two max_three min_three max_four min_four   -- for this text's walks alone
set_option linter.unusedVariables false
set_option linter.unusedSimpArgs false

/-! ### tag_Pack: function 10 -/
def tag_Pack.f (a0 : Int) (a1 : Int) : Option (Int × Int) := if a0 < 0 then (some (0, 1)) else (if a0 ≥ 1024 then (some (0, 1)) else (if a1 < 0 then (some (0, 1)) else (if a1 ≥ 1099511627776 then (some (0, 1)) else (some (wrap64 ((wrap64 ((wrap64 (a1 * 1024)) + a0)) + 1), 0)))))
set_option maxHeartbeats 8000000 in
set_option maxRecDepth 100000 in
theorem tag_Pack.calls (a0 : Int) (a1 : Int) (r1 : Int) (r2 : Int) (w : World) (h : tag_Pack.f a0 a1 = some (r1, r2)) :
    Calls Try.prog 10 #[.int .i64 a0, .int .i64 a1] w fun e w' => e = .returned (.tuple #[.int .i64 r1, .int .i64 r2]) ∧ Drawn0 w w' := by
  have H : (if a0 < 0 then (some (0, 1)) else (if a0 ≥ 1024 then (some (0, 1)) else (if a1 < 0 then (some (0, 1)) else (if a1 ≥ 1099511627776 then (some (0, 1)) else (some (wrap64 ((wrap64 ((wrap64 (a1 * 1024)) + a0)) + 1), 0)))))) = some (r1, r2) := h
  clear h
  by_cases c3 : a0 < 0
  · rw [if_pos c3] at H
    have c3b0 : decide (a0 < 0) = true := decide_eq_true c3
    clear c3
    simp only [Option.some.injEq, Prod.mk.injEq] at H
    obtain ⟨rfl, rfl⟩ := H
    go_enter Try.func10, Try.ntmps10
    go_wp2
    go_ret2
    exact ⟨by first | rfl | (simp; done) | (simp [*]; done), by repeat (first | exact Drawn0.refl _ | apply Drawn0.step)⟩
  · rw [if_neg c3] at H
    have c3b0 : decide (a0 < 0) = false := decide_eq_false c3
    clear c3
    by_cases c4 : a0 ≥ 1024
    · rw [if_pos c4] at H
      have c4b0 : decide (1024 ≤ a0) = true := decide_eq_true c4
      clear c4
      simp only [Option.some.injEq, Prod.mk.injEq] at H
      obtain ⟨rfl, rfl⟩ := H
      go_enter Try.func10, Try.ntmps10
      go_wp2
      go_ret2
      exact ⟨by first | rfl | (simp; done) | (simp [*]; done), by repeat (first | exact Drawn0.refl _ | apply Drawn0.step)⟩
    · rw [if_neg c4] at H
      have c4b0 : decide (1024 ≤ a0) = false := decide_eq_false c4
      clear c4
      by_cases c5 : a1 < 0
      · rw [if_pos c5] at H
        have c5b0 : decide (a1 < 0) = true := decide_eq_true c5
        clear c5
        simp only [Option.some.injEq, Prod.mk.injEq] at H
        obtain ⟨rfl, rfl⟩ := H
        go_enter Try.func10, Try.ntmps10
        go_wp2
        go_ret2
        exact ⟨by first | rfl | (simp; done) | (simp [*]; done), by repeat (first | exact Drawn0.refl _ | apply Drawn0.step)⟩
      · rw [if_neg c5] at H
        have c5b0 : decide (a1 < 0) = false := decide_eq_false c5
        clear c5
        by_cases c6 : a1 ≥ 1099511627776
        · rw [if_pos c6] at H
          have c6b0 : decide (1099511627776 ≤ a1) = true := decide_eq_true c6
          clear c6
          simp only [Option.some.injEq, Prod.mk.injEq] at H
          obtain ⟨rfl, rfl⟩ := H
          go_enter Try.func10, Try.ntmps10
          go_wp2
          go_ret2
          exact ⟨by first | rfl | (simp; done) | (simp [*]; done), by repeat (first | exact Drawn0.refl _ | apply Drawn0.step)⟩
        · rw [if_neg c6] at H
          have c6b0 : decide (1099511627776 ≤ a1) = false := decide_eq_false c6
          clear c6
          simp only [Option.some.injEq, Prod.mk.injEq] at H
          obtain ⟨rfl, rfl⟩ := H
          go_enter Try.func10, Try.ntmps10
          go_wp2
          go_ret2
          exact ⟨by first | rfl | (simp; done) | (simp [*]; done), by repeat (first | exact Drawn0.refl _ | apply Drawn0.step)⟩

/-! ### tendrillaw01_live: function 9 -/
def tendrillaw01_live.f  : Option (Bool) := (tag_Pack.f 3 2).bind fun bt101 => (if bt101.2 = 0 then (some (bt101.1 == 2052)) else (some false))
set_option maxHeartbeats 8000000 in
set_option maxRecDepth 100000 in
theorem tendrillaw01_live.calls  (r : Bool) (w : World) (h : tendrillaw01_live.f  = some r) :
    Calls Try.prog 9 #[] w fun e w' => e = .returned (.bool r) ∧ Drawn0 w w' := by
  have H : ((tag_Pack.f 3 2).bind fun bt101 => (if bt101.2 = 0 then (some (bt101.1 == 2052)) else (some false))) = some r := h
  clear h
  replace H := Option.bind_eq_some_iff.mp H
  obtain ⟨⟨t101, t102⟩, A10, H⟩ := H
  replace H : (if t102 = 0 then (some (t101 == 2052)) else (some false)) = some r := H
  have A1 := Aside0.mk A10
  clear A10
  by_cases c2 : t102 = 0
  · rw [if_pos c2] at H
    have c2b0 : (t102 == 0) = true := beq_iff_eq.mpr c2
    have c2b1 : (t102 != 0) = false := bne_eq_false_iff_eq.mpr c2
    clear c2
    obtain rfl := Option.some.inj H
    go_enter Try.func9, Try.ntmps9
    go_wp2_with (first | ((with_reducible refine gate_callee (f := 10) rfl ?_); refine goesL_ (some 4) rfl rfl Try.func10 (by kernel_rfl) rfl #[.int .i64 3, .int .i64 2] rfl (by (try simp only [List.map_toArray, List.map_cons, List.map_nil]); first | done | rfl | (simp only [List.length_drop, List.length_take]; rfl)) ?_; (with_reducible refine (tag_Pack.calls 3 2 t101 t102 _ A1.out).mono ?_); rintro e w' ⟨rfl, ⟨nd, rfl⟩⟩; refine ⟨_, rfl, ?_⟩))
    go_ret
    exact ⟨by first | rfl | (simp; done) | (simp [*]; done), by repeat (first | exact Drawn0.refl _ | apply Drawn0.step)⟩
  · rw [if_neg c2] at H
    have c2b0 : (t102 == 0) = false := beq_eq_false_iff_ne.mpr c2
    have c2b1 : (t102 != 0) = true := bne_iff_ne.mpr c2
    obtain rfl := Option.some.inj H
    go_enter Try.func9, Try.ntmps9
    go_wp2_with (first | ((with_reducible refine gate_callee (f := 10) rfl ?_); refine goesL_ (some 4) rfl rfl Try.func10 (by kernel_rfl) rfl #[.int .i64 3, .int .i64 2] rfl (by (try simp only [List.map_toArray, List.map_cons, List.map_nil]); first | done | rfl | (simp only [List.length_drop, List.length_take]; rfl)) ?_; (with_reducible refine (tag_Pack.calls 3 2 t101 t102 _ A1.out).mono ?_); rintro e w' ⟨rfl, ⟨nd, rfl⟩⟩; refine ⟨_, rfl, ?_⟩))
    go_ret
    exact ⟨by first | rfl | (simp; done) | (simp [*]; done), by repeat (first | exact Drawn0.refl _ | apply Drawn0.step)⟩

/-! ### tag_Unpack: function 12 -/
def tag_Unpack.f (a0 : Int) : Option (Int × Int × Int) := if a0 < 1 then (some (0, 0, 1)) else (if ((wrap64 (a0 - 1)) / 1024) ≥ 1099511627776 then (some (0, 0, 1)) else (some (Go.bits .and .i64 (wrap64 (a0 - 1)) 1023, (wrap64 (a0 - 1)) / 1024, 0)))
set_option maxHeartbeats 8000000 in
set_option maxRecDepth 100000 in
theorem tag_Unpack.calls (a0 : Int) (r1 : Int) (r2 : Int) (r3 : Int) (w : World) (h : tag_Unpack.f a0 = some (r1, r2, r3)) :
    Calls Try.prog 12 #[.int .i64 a0] w fun e w' => e = .returned (.tuple #[.int .i64 r1, .int .i64 r2, .int .i64 r3]) ∧ Drawn0 w w' := by
  have H : (if a0 < 1 then (some (0, 0, 1)) else (if ((wrap64 (a0 - 1)) / 1024) ≥ 1099511627776 then (some (0, 0, 1)) else (some (Go.bits .and .i64 (wrap64 (a0 - 1)) 1023, (wrap64 (a0 - 1)) / 1024, 0)))) = some (r1, r2, r3) := h
  clear h
  by_cases c2 : a0 < 1
  · rw [if_pos c2] at H
    have c2b0 : decide (a0 < 1) = true := decide_eq_true c2
    clear c2
    simp only [Option.some.injEq, Prod.mk.injEq] at H
    obtain ⟨rfl, rfl, rfl⟩ := H
    go_enter Try.func12, Try.ntmps12
    go_wp2
    go_ret3
    exact ⟨by first | rfl | (simp; done) | (simp [*]; done), by repeat (first | exact Drawn0.refl _ | apply Drawn0.step)⟩
  · rw [if_neg c2] at H
    have c2b0 : decide (a0 < 1) = false := decide_eq_false c2
    clear c2
    by_cases c3 : ((wrap64 (a0 - 1)) / 1024) ≥ 1099511627776
    · rw [if_pos c3] at H
      have c3b0 : decide (1099511627776 ≤ ((wrap64 (a0 - 1)) / 1024)) = true := decide_eq_true c3
      clear c3
      simp only [Option.some.injEq, Prod.mk.injEq] at H
      obtain ⟨rfl, rfl, rfl⟩ := H
      go_enter Try.func12, Try.ntmps12
      go_wp2
      go_ret3
      exact ⟨by first | rfl | (simp; done) | (simp [*]; done), by repeat (first | exact Drawn0.refl _ | apply Drawn0.step)⟩
    · rw [if_neg c3] at H
      have c3b0 : decide (1099511627776 ≤ ((wrap64 (a0 - 1)) / 1024)) = false := decide_eq_false c3
      clear c3
      simp only [Option.some.injEq, Prod.mk.injEq] at H
      obtain ⟨rfl, rfl, rfl⟩ := H
      go_enter Try.func12, Try.ntmps12
      go_wp2
      go_ret3
      exact ⟨by first | rfl | (simp; done) | (simp [*]; done), by repeat (first | exact Drawn0.refl _ | apply Drawn0.step)⟩

/-! ### tendrillaw01_TagBack: function 5 -/
def tendrillaw01_TagBack.j0 : Nat → Int → Option (Bool)
  | 0, _ => none
  | k + 1, x2 => (tag_Unpack.f x2).bind fun bt109 => (if bt109.2.2 = 0 then ((tag_Pack.f bt109.1 bt109.2.1).bind fun bt112 => (if bt112.2 = 0 then (some (bt112.1 == x2)) else (some false))) else (if bt109.1 = 0 then (some (bt109.2.1 == 0)) else (some false)))
def tendrillaw01_TagBack.f (k : Nat) (a0 : Int) (a1 : Int) (a2 : Int) : Option (Bool) := (tendrillaw01_live.f).bind fun t103 => (if t103 = true then ((tag_Pack.f a0 a1).bind fun bt104 => (if bt104.2 = 0 then ((tag_Unpack.f bt104.1).bind fun bt106 => (if bt106.2.2 = 0 then (if bt106.1 = a0 then (if bt106.2.1 = a1 then (if bt104.1 = 0 then (some false) else (tendrillaw01_TagBack.j0 k a2)) else (some false)) else (some false)) else (some false))) else (if bt104.1 = 0 then (if a0 ≥ 0 then (if a0 < 1024 then (if a1 ≥ 0 then (if a1 < 1099511627776 then (some false) else (tendrillaw01_TagBack.j0 k a2)) else (tendrillaw01_TagBack.j0 k a2)) else (tendrillaw01_TagBack.j0 k a2)) else (tendrillaw01_TagBack.j0 k a2)) else (some false)))) else (some false))
theorem tendrillaw01_TagBack.mono_l : ∀ k, (∀ y0, LeO (tendrillaw01_TagBack.j0 k y0) (tendrillaw01_TagBack.j0 (k + 1) y0))
  | 0 => fun _ r h => by simp [tendrillaw01_TagBack.j0] at h
  | k + 1 => by
    have ih0 := tendrillaw01_TagBack.mono_l k
    · intro y0
      unfold tendrillaw01_TagBack.j0
      repeat' first
      | (with_reducible exact ih0 _)
      | (with_reducible exact LeO.refl _)
      | (with_reducible exact LeO.none _)
      | (with_reducible refine LeO.ite ?_ ?_)
      | (with_reducible refine LeO.bind ?_ (fun _ => ?_))
      | exact ih0 _
      | exact LeO.none _
      | refine LeO.ite ?_ ?_
      | refine LeO.bind ?_ (fun _ => ?_)
theorem tendrillaw01_TagBack.mono : ∀ a0 a1 a2 k, LeO (tendrillaw01_TagBack.f k a0 a1 a2) (tendrillaw01_TagBack.f (k + 1) a0 a1 a2) := by
  intro a0 a1 a2 k
  have ih0 := tendrillaw01_TagBack.mono_l k
  unfold tendrillaw01_TagBack.f
  repeat' first
      | (with_reducible exact ih0 _)
      | (with_reducible exact LeO.refl _)
      | (with_reducible exact LeO.none _)
      | (with_reducible refine LeO.ite ?_ ?_)
      | (with_reducible refine LeO.bind ?_ (fun _ => ?_))
      | exact ih0 _
      | exact LeO.none _
      | refine LeO.ite ?_ ?_
      | refine LeO.bind ?_ (fun _ => ?_)
set_option maxHeartbeats 8000000 in
set_option maxRecDepth 100000 in
theorem tendrillaw01_TagBack.calls (k : Nat) (a0 : Int) (a1 : Int) (a2 : Int) (r : Bool) (w : World) (h : tendrillaw01_TagBack.f k a0 a1 a2 = some r) :
    Calls Try.prog 5 #[.int .i64 a0, .int .i64 a1, .int .i64 a2] w fun e w' => e = .returned (.bool r) ∧ Drawn0 w w' := by
  have H : ((tendrillaw01_live.f).bind fun t103 => (if t103 = true then ((tag_Pack.f a0 a1).bind fun bt104 => (if bt104.2 = 0 then ((tag_Unpack.f bt104.1).bind fun bt106 => (if bt106.2.2 = 0 then (if bt106.1 = a0 then (if bt106.2.1 = a1 then (if bt104.1 = 0 then (some false) else (tendrillaw01_TagBack.j0 k a2)) else (some false)) else (some false)) else (some false))) else (if bt104.1 = 0 then (if a0 ≥ 0 then (if a0 < 1024 then (if a1 ≥ 0 then (if a1 < 1099511627776 then (some false) else (tendrillaw01_TagBack.j0 k a2)) else (tendrillaw01_TagBack.j0 k a2)) else (tendrillaw01_TagBack.j0 k a2)) else (tendrillaw01_TagBack.j0 k a2)) else (some false)))) else (some false))) = some r := h
  clear h
  replace H := Option.bind_eq_some_iff.mp H
  obtain ⟨t103, A40, H⟩ := H
  replace H : (if t103 = true then ((tag_Pack.f a0 a1).bind fun bt104 => (if bt104.2 = 0 then ((tag_Unpack.f bt104.1).bind fun bt106 => (if bt106.2.2 = 0 then (if bt106.1 = a0 then (if bt106.2.1 = a1 then (if bt104.1 = 0 then (some false) else (tendrillaw01_TagBack.j0 k a2)) else (some false)) else (some false)) else (some false))) else (if bt104.1 = 0 then (if a0 ≥ 0 then (if a0 < 1024 then (if a1 ≥ 0 then (if a1 < 1099511627776 then (some false) else (tendrillaw01_TagBack.j0 k a2)) else (tendrillaw01_TagBack.j0 k a2)) else (tendrillaw01_TagBack.j0 k a2)) else (tendrillaw01_TagBack.j0 k a2)) else (some false)))) else (some false)) = some r := H
  have A4 := Aside0.mk A40
  clear A40
  by_cases c5 : t103 = true
  · subst c5
    have H1 : ((tag_Pack.f a0 a1).bind fun bt104 => (if bt104.2 = 0 then ((tag_Unpack.f bt104.1).bind fun bt106 => (if bt106.2.2 = 0 then (if bt106.1 = a0 then (if bt106.2.1 = a1 then (if bt104.1 = 0 then (some false) else (tendrillaw01_TagBack.j0 k a2)) else (some false)) else (some false)) else (some false))) else (if bt104.1 = 0 then (if a0 ≥ 0 then (if a0 < 1024 then (if a1 ≥ 0 then (if a1 < 1099511627776 then (some false) else (tendrillaw01_TagBack.j0 k a2)) else (tendrillaw01_TagBack.j0 k a2)) else (tendrillaw01_TagBack.j0 k a2)) else (tendrillaw01_TagBack.j0 k a2)) else (some false)))) = some r := by rw [if_pos rfl] at H; exact H
    clear H
    have H := H1
    clear H1
    replace H := Option.bind_eq_some_iff.mp H
    obtain ⟨⟨t104, t105⟩, A60, H⟩ := H
    replace H : (if t105 = 0 then ((tag_Unpack.f t104).bind fun bt106 => (if bt106.2.2 = 0 then (if bt106.1 = a0 then (if bt106.2.1 = a1 then (if t104 = 0 then (some false) else (tendrillaw01_TagBack.j0 k a2)) else (some false)) else (some false)) else (some false))) else (if t104 = 0 then (if a0 ≥ 0 then (if a0 < 1024 then (if a1 ≥ 0 then (if a1 < 1099511627776 then (some false) else (tendrillaw01_TagBack.j0 k a2)) else (tendrillaw01_TagBack.j0 k a2)) else (tendrillaw01_TagBack.j0 k a2)) else (tendrillaw01_TagBack.j0 k a2)) else (some false))) = some r := H
    have A6 := Aside0.mk A60
    clear A60
    have HC7 := Aside0.mk H
    clear H
    go_enter Try.func5, Try.ntmps5
    go_upto_if 26 with (first | ((with_reducible refine gate_callee (f := 9) rfl ?_); refine goesL_ (some 17) rfl rfl Try.func9 (by kernel_rfl) rfl #[] rfl (by (try simp only [List.map_toArray, List.map_cons, List.map_nil]); first | done | rfl | (simp only [List.length_drop, List.length_take]; rfl)) ?_; (with_reducible refine (tendrillaw01_live.calls  true _ A4.out).mono ?_); rintro e w' ⟨rfl, ⟨nd, rfl⟩⟩; refine ⟨_, rfl, ?_⟩) | ((with_reducible refine gate_callee (f := 10) rfl ?_); refine goesL_ (some 22) rfl rfl Try.func10 (by kernel_rfl) rfl #[.int .i64 a0, .int .i64 a1] rfl (by (try simp only [List.map_toArray, List.map_cons, List.map_nil]); first | done | rfl | (simp only [List.length_drop, List.length_take]; rfl)) ?_; (with_reducible refine (tag_Pack.calls a0 a1 t104 t105 _ A6.out).mono ?_); rintro e w' ⟨rfl, ⟨nd, rfl⟩⟩; refine ⟨_, rfl, ?_⟩))
    (try simp only [Act.put, List.setIfInBounds_toArray, List.set_cons_zero, List.set_cons_succ])
    go_cut [] (fun wc => ∃ (kq : Nat), Aside0 (tendrillaw01_TagBack.j0 kq a2 = some r) ∧ Aside0 (kq ≤ k) ∧ Drawn0 w wc)
    case first =>
      have H := HC7.out
      clear HC7
      by_cases c8 : t105 = 0
      · rw [if_pos c8] at H
        have c8b0 : (t105 == 0) = true := beq_iff_eq.mpr c8
        have c8b1 : (t105 != 0) = false := bne_eq_false_iff_eq.mpr c8
        clear c8
        (first | rw [c8b0] | (simp only [i64_w, i32_w]; rw [c8b0]) | skip)
        replace H := Option.bind_eq_some_iff.mp H
        obtain ⟨⟨t106, t107, t108⟩, A90, H⟩ := H
        replace H : (if t108 = 0 then (if t106 = a0 then (if t107 = a1 then (if t104 = 0 then (some false) else (tendrillaw01_TagBack.j0 k a2)) else (some false)) else (some false)) else (some false)) = some r := H
        have A9 := Aside0.mk A90
        clear A90
        by_cases c10 : t108 = 0
        · rw [if_pos c10] at H
          have c10b0 : (t108 == 0) = true := beq_iff_eq.mpr c10
          have c10b1 : (t108 != 0) = false := bne_eq_false_iff_eq.mpr c10
          clear c10
          by_cases c11 : t106 = a0
          · rw [if_pos c11] at H
            have c11b0 : (t106 == a0) = true := beq_iff_eq.mpr c11
            have c11b1 : (t106 != a0) = false := bne_eq_false_iff_eq.mpr c11
            clear c11
            by_cases c12 : t107 = a1
            · rw [if_pos c12] at H
              have c12b0 : (t107 == a1) = true := beq_iff_eq.mpr c12
              have c12b1 : (t107 != a1) = false := bne_eq_false_iff_eq.mpr c12
              clear c12
              by_cases c13 : t104 = 0
              · rw [if_pos c13] at H
                have c13b0 : (t104 == 0) = true := beq_iff_eq.mpr c13
                have c13b1 : (t104 != 0) = false := bne_eq_false_iff_eq.mpr c13
                clear c13
                obtain rfl := Option.some.inj H
                go_wp2_with (first | ((with_reducible refine gate_callee (f := 12) rfl ?_); refine goesL_ (some 29) rfl rfl Try.func12 (by kernel_rfl) rfl #[.int .i64 t104] rfl (by (try simp only [List.map_toArray, List.map_cons, List.map_nil]); first | done | rfl | (simp only [List.length_drop, List.length_take]; rfl)) ?_; (with_reducible refine (tag_Unpack.calls t104 t106 t107 t108 _ A9.out).mono ?_); rintro e w' ⟨rfl, ⟨nd, rfl⟩⟩; refine ⟨_, rfl, ?_⟩))
                go_ret
                exact ⟨by first | rfl | (simp; done) | (simp [*]; done), by repeat (first | exact Drawn0.refl _ | apply Drawn0.step)⟩
              · rw [if_neg c13] at H
                have c13b0 : (t104 == 0) = false := beq_eq_false_iff_ne.mpr c13
                have c13b1 : (t104 != 0) = true := bne_iff_ne.mpr c13
                have H' := Aside0.mk H
                clear H
                go_wp2_with (first | ((with_reducible refine gate_callee (f := 12) rfl ?_); refine goesL_ (some 29) rfl rfl Try.func12 (by kernel_rfl) rfl #[.int .i64 t104] rfl (by (try simp only [List.map_toArray, List.map_cons, List.map_nil]); first | done | rfl | (simp only [List.length_drop, List.length_take]; rfl)) ?_; (with_reducible refine (tag_Unpack.calls t104 t106 t107 t108 _ A9.out).mono ?_); rintro e w' ⟨rfl, ⟨nd, rfl⟩⟩; refine ⟨_, rfl, ?_⟩))
                go_meet
                case rel => exact ⟨_, H', ⟨by first | omega | exact Nat.le_refl _⟩, by repeat (first | exact Drawn0.refl _ | apply Drawn0.step)⟩
            · rw [if_neg c12] at H
              have c12b0 : (t107 == a1) = false := beq_eq_false_iff_ne.mpr c12
              have c12b1 : (t107 != a1) = true := bne_iff_ne.mpr c12
              obtain rfl := Option.some.inj H
              go_wp2_with (first | ((with_reducible refine gate_callee (f := 12) rfl ?_); refine goesL_ (some 29) rfl rfl Try.func12 (by kernel_rfl) rfl #[.int .i64 t104] rfl (by (try simp only [List.map_toArray, List.map_cons, List.map_nil]); first | done | rfl | (simp only [List.length_drop, List.length_take]; rfl)) ?_; (with_reducible refine (tag_Unpack.calls t104 t106 t107 t108 _ A9.out).mono ?_); rintro e w' ⟨rfl, ⟨nd, rfl⟩⟩; refine ⟨_, rfl, ?_⟩))
              go_ret
              exact ⟨by first | rfl | (simp; done) | (simp [*]; done), by repeat (first | exact Drawn0.refl _ | apply Drawn0.step)⟩
          · rw [if_neg c11] at H
            have c11b0 : (t106 == a0) = false := beq_eq_false_iff_ne.mpr c11
            have c11b1 : (t106 != a0) = true := bne_iff_ne.mpr c11
            obtain rfl := Option.some.inj H
            go_wp2_with (first | ((with_reducible refine gate_callee (f := 12) rfl ?_); refine goesL_ (some 29) rfl rfl Try.func12 (by kernel_rfl) rfl #[.int .i64 t104] rfl (by (try simp only [List.map_toArray, List.map_cons, List.map_nil]); first | done | rfl | (simp only [List.length_drop, List.length_take]; rfl)) ?_; (with_reducible refine (tag_Unpack.calls t104 t106 t107 t108 _ A9.out).mono ?_); rintro e w' ⟨rfl, ⟨nd, rfl⟩⟩; refine ⟨_, rfl, ?_⟩))
            go_ret
            exact ⟨by first | rfl | (simp; done) | (simp [*]; done), by repeat (first | exact Drawn0.refl _ | apply Drawn0.step)⟩
        · rw [if_neg c10] at H
          have c10b0 : (t108 == 0) = false := beq_eq_false_iff_ne.mpr c10
          have c10b1 : (t108 != 0) = true := bne_iff_ne.mpr c10
          obtain rfl := Option.some.inj H
          go_wp2_with (first | ((with_reducible refine gate_callee (f := 12) rfl ?_); refine goesL_ (some 29) rfl rfl Try.func12 (by kernel_rfl) rfl #[.int .i64 t104] rfl (by (try simp only [List.map_toArray, List.map_cons, List.map_nil]); first | done | rfl | (simp only [List.length_drop, List.length_take]; rfl)) ?_; (with_reducible refine (tag_Unpack.calls t104 t106 t107 t108 _ A9.out).mono ?_); rintro e w' ⟨rfl, ⟨nd, rfl⟩⟩; refine ⟨_, rfl, ?_⟩))
          go_ret
          exact ⟨by first | rfl | (simp; done) | (simp [*]; done), by repeat (first | exact Drawn0.refl _ | apply Drawn0.step)⟩
      · rw [if_neg c8] at H
        have c8b0 : (t105 == 0) = false := beq_eq_false_iff_ne.mpr c8
        have c8b1 : (t105 != 0) = true := bne_iff_ne.mpr c8
        (first | rw [c8b0] | (simp only [i64_w, i32_w]; rw [c8b0]) | skip)
        by_cases c14 : t104 = 0
        · rw [if_pos c14] at H
          have c14b0 : (t104 == 0) = true := beq_iff_eq.mpr c14
          have c14b1 : (t104 != 0) = false := bne_eq_false_iff_eq.mpr c14
          clear c14
          by_cases c15 : a0 ≥ 0
          · rw [if_pos c15] at H
            have c15b0 : decide (0 ≤ a0) = true := decide_eq_true c15
            clear c15
            by_cases c16 : a0 < 1024
            · rw [if_pos c16] at H
              have c16b0 : decide (a0 < 1024) = true := decide_eq_true c16
              clear c16
              by_cases c17 : a1 ≥ 0
              · rw [if_pos c17] at H
                have c17b0 : decide (0 ≤ a1) = true := decide_eq_true c17
                clear c17
                by_cases c18 : a1 < 1099511627776
                · rw [if_pos c18] at H
                  have c18b0 : decide (a1 < 1099511627776) = true := decide_eq_true c18
                  clear c18
                  obtain rfl := Option.some.inj H
                  go_wp2
                  go_ret
                  exact ⟨by first | rfl | (simp; done) | (simp [*]; done), by repeat (first | exact Drawn0.refl _ | apply Drawn0.step)⟩
                · rw [if_neg c18] at H
                  have c18b0 : decide (a1 < 1099511627776) = false := decide_eq_false c18
                  clear c18
                  have H' := Aside0.mk H
                  clear H
                  go_wp2
                  go_meet
                  case rel => exact ⟨_, H', ⟨by first | omega | exact Nat.le_refl _⟩, by repeat (first | exact Drawn0.refl _ | apply Drawn0.step)⟩
              · rw [if_neg c17] at H
                have c17b0 : decide (0 ≤ a1) = false := decide_eq_false c17
                clear c17
                have H' := Aside0.mk H
                clear H
                go_wp2
                go_meet
                case rel => exact ⟨_, H', ⟨by first | omega | exact Nat.le_refl _⟩, by repeat (first | exact Drawn0.refl _ | apply Drawn0.step)⟩
            · rw [if_neg c16] at H
              have c16b0 : decide (a0 < 1024) = false := decide_eq_false c16
              clear c16
              have H' := Aside0.mk H
              clear H
              go_wp2
              go_meet
              case rel => exact ⟨_, H', ⟨by first | omega | exact Nat.le_refl _⟩, by repeat (first | exact Drawn0.refl _ | apply Drawn0.step)⟩
          · rw [if_neg c15] at H
            have c15b0 : decide (0 ≤ a0) = false := decide_eq_false c15
            clear c15
            have H' := Aside0.mk H
            clear H
            go_wp2
            go_meet
            case rel => exact ⟨_, H', ⟨by first | omega | exact Nat.le_refl _⟩, by repeat (first | exact Drawn0.refl _ | apply Drawn0.step)⟩
        · rw [if_neg c14] at H
          have c14b0 : (t104 == 0) = false := beq_eq_false_iff_ne.mpr c14
          have c14b1 : (t104 != 0) = true := bne_iff_ne.mpr c14
          obtain rfl := Option.some.inj H
          go_wp2
          go_ret
          exact ⟨by first | rfl | (simp; done) | (simp [*]; done), by repeat (first | exact Drawn0.refl _ | apply Drawn0.step)⟩
    case rest =>
      clear HC7
      try clear c1
      try clear p2
      try clear c5
      try clear c8
      try clear c8b0
      try clear c8b1
      try clear c9
      try clear c10
      try clear c10b0
      try clear c10b1
      try clear c11
      try clear c11b0
      try clear c11b1
      try clear c12
      try clear c12b0
      try clear c12b1
      try clear c13
      try clear c13b0
      try clear c13b1
      try clear c14
      try clear c14b0
      try clear c14b1
      try clear c15
      try clear c15b0
      try clear c16
      try clear c16b0
      try clear c17
      try clear c17b0
      try clear c18
      try clear c18b0
      obtain ⟨kq, HA, HJ6, ⟨mc6, rfl⟩⟩ := hcut
      cases kq with
      | zero => exact absurd HA.out (by simp [tendrillaw01_TagBack.j0])
      | succ kj6 =>
        have H := HA.out
        clear HA
        simp only [tendrillaw01_TagBack.j0] at H
        replace H := Option.bind_eq_some_iff.mp H
        obtain ⟨⟨t109, t110, t111⟩, A190, H⟩ := H
        replace H : (if t111 = 0 then ((tag_Pack.f t109 t110).bind fun bt112 => (if bt112.2 = 0 then (some (bt112.1 == a2)) else (some false))) else (if t109 = 0 then (some (t110 == 0)) else (some false))) = some r := H
        have A19 := Aside0.mk A190
        clear A190
        by_cases c20 : t111 = 0
        · rw [if_pos c20] at H
          have c20b0 : (t111 == 0) = true := beq_iff_eq.mpr c20
          have c20b1 : (t111 != 0) = false := bne_eq_false_iff_eq.mpr c20
          clear c20
          replace H := Option.bind_eq_some_iff.mp H
          obtain ⟨⟨t112, t113⟩, A210, H⟩ := H
          replace H : (if t113 = 0 then (some (t112 == a2)) else (some false)) = some r := H
          have A21 := Aside0.mk A210
          clear A210
          by_cases c22 : t113 = 0
          · rw [if_pos c22] at H
            have c22b0 : (t113 == 0) = true := beq_iff_eq.mpr c22
            have c22b1 : (t113 != 0) = false := bne_eq_false_iff_eq.mpr c22
            clear c22
            obtain rfl := Option.some.inj H
            go_wp2_with (first | ((with_reducible refine gate_callee (f := 12) rfl ?_); refine goesL_ (some 69) rfl rfl Try.func12 (by kernel_rfl) rfl #[.int .i64 a2] rfl (by (try simp only [List.map_toArray, List.map_cons, List.map_nil]); first | done | rfl | (simp only [List.length_drop, List.length_take]; rfl)) ?_; (with_reducible refine (tag_Unpack.calls a2 t109 t110 t111 _ A19.out).mono ?_); rintro e w' ⟨rfl, ⟨nd, rfl⟩⟩; refine ⟨_, rfl, ?_⟩) | ((with_reducible refine gate_callee (f := 10) rfl ?_); refine goesL_ (some 84) rfl rfl Try.func10 (by kernel_rfl) rfl #[.int .i64 t109, .int .i64 t110] rfl (by (try simp only [List.map_toArray, List.map_cons, List.map_nil]); first | done | rfl | (simp only [List.length_drop, List.length_take]; rfl)) ?_; (with_reducible refine (tag_Pack.calls t109 t110 t112 t113 _ A21.out).mono ?_); rintro e w' ⟨rfl, ⟨nd, rfl⟩⟩; refine ⟨_, rfl, ?_⟩))
            go_ret
            exact ⟨by first | rfl | (simp; done) | (simp [*]; done), by repeat (first | exact Drawn0.refl _ | apply Drawn0.step)⟩
          · rw [if_neg c22] at H
            have c22b0 : (t113 == 0) = false := beq_eq_false_iff_ne.mpr c22
            have c22b1 : (t113 != 0) = true := bne_iff_ne.mpr c22
            obtain rfl := Option.some.inj H
            go_wp2_with (first | ((with_reducible refine gate_callee (f := 12) rfl ?_); refine goesL_ (some 69) rfl rfl Try.func12 (by kernel_rfl) rfl #[.int .i64 a2] rfl (by (try simp only [List.map_toArray, List.map_cons, List.map_nil]); first | done | rfl | (simp only [List.length_drop, List.length_take]; rfl)) ?_; (with_reducible refine (tag_Unpack.calls a2 t109 t110 t111 _ A19.out).mono ?_); rintro e w' ⟨rfl, ⟨nd, rfl⟩⟩; refine ⟨_, rfl, ?_⟩) | ((with_reducible refine gate_callee (f := 10) rfl ?_); refine goesL_ (some 84) rfl rfl Try.func10 (by kernel_rfl) rfl #[.int .i64 t109, .int .i64 t110] rfl (by (try simp only [List.map_toArray, List.map_cons, List.map_nil]); first | done | rfl | (simp only [List.length_drop, List.length_take]; rfl)) ?_; (with_reducible refine (tag_Pack.calls t109 t110 t112 t113 _ A21.out).mono ?_); rintro e w' ⟨rfl, ⟨nd, rfl⟩⟩; refine ⟨_, rfl, ?_⟩))
            go_ret
            exact ⟨by first | rfl | (simp; done) | (simp [*]; done), by repeat (first | exact Drawn0.refl _ | apply Drawn0.step)⟩
        · rw [if_neg c20] at H
          have c20b0 : (t111 == 0) = false := beq_eq_false_iff_ne.mpr c20
          have c20b1 : (t111 != 0) = true := bne_iff_ne.mpr c20
          by_cases c23 : t109 = 0
          · rw [if_pos c23] at H
            have c23b0 : (t109 == 0) = true := beq_iff_eq.mpr c23
            have c23b1 : (t109 != 0) = false := bne_eq_false_iff_eq.mpr c23
            clear c23
            obtain rfl := Option.some.inj H
            go_wp2_with (first | ((with_reducible refine gate_callee (f := 12) rfl ?_); refine goesL_ (some 69) rfl rfl Try.func12 (by kernel_rfl) rfl #[.int .i64 a2] rfl (by (try simp only [List.map_toArray, List.map_cons, List.map_nil]); first | done | rfl | (simp only [List.length_drop, List.length_take]; rfl)) ?_; (with_reducible refine (tag_Unpack.calls a2 t109 t110 t111 _ A19.out).mono ?_); rintro e w' ⟨rfl, ⟨nd, rfl⟩⟩; refine ⟨_, rfl, ?_⟩))
            go_ret
            exact ⟨by first | rfl | (simp; done) | (simp [*]; done), by repeat (first | exact Drawn0.refl _ | apply Drawn0.step)⟩
          · rw [if_neg c23] at H
            have c23b0 : (t109 == 0) = false := beq_eq_false_iff_ne.mpr c23
            have c23b1 : (t109 != 0) = true := bne_iff_ne.mpr c23
            obtain rfl := Option.some.inj H
            go_wp2_with (first | ((with_reducible refine gate_callee (f := 12) rfl ?_); refine goesL_ (some 69) rfl rfl Try.func12 (by kernel_rfl) rfl #[.int .i64 a2] rfl (by (try simp only [List.map_toArray, List.map_cons, List.map_nil]); first | done | rfl | (simp only [List.length_drop, List.length_take]; rfl)) ?_; (with_reducible refine (tag_Unpack.calls a2 t109 t110 t111 _ A19.out).mono ?_); rintro e w' ⟨rfl, ⟨nd, rfl⟩⟩; refine ⟨_, rfl, ?_⟩))
            go_ret
            exact ⟨by first | rfl | (simp; done) | (simp [*]; done), by repeat (first | exact Drawn0.refl _ | apply Drawn0.step)⟩
  · replace c5 := Bool.eq_false_iff.mpr c5
    subst c5
    have H1 : (some false) = some r := by rw [if_neg (show ¬ (false = true) by decide)] at H; exact H
    clear H
    have H := H1
    clear H1
    obtain rfl := Option.some.inj H
    go_enter Try.func5, Try.ntmps5
    go_wp2_with (first | ((with_reducible refine gate_callee (f := 9) rfl ?_); refine goesL_ (some 17) rfl rfl Try.func9 (by kernel_rfl) rfl #[] rfl (by (try simp only [List.map_toArray, List.map_cons, List.map_nil]); first | done | rfl | (simp only [List.length_drop, List.length_take]; rfl)) ?_; (with_reducible refine (tendrillaw01_live.calls  false _ A4.out).mono ?_); rintro e w' ⟨rfl, ⟨nd, rfl⟩⟩; refine ⟨_, rfl, ?_⟩))
    go_ret
    exact ⟨by first | rfl | (simp; done) | (simp [*]; done), by repeat (first | exact Drawn0.refl _ | apply Drawn0.step)⟩

/-- THE ONE PURE STATEMENT of tendrillaw01_TagBack: yours. -/
def tendrillaw01_TagBack.Pure : Prop := ∀ (a0 : Int) (a1 : Int) (a2 : Int), (Lit.int .i64 a0).wf = true → (Lit.int .i64 a1).wf = true → (Lit.int .i64 a2).wf = true → ∃ k, tendrillaw01_TagBack.f k a0 a1 a2 = some true
theorem tendrillaw01_TagBack.walk (P : tendrillaw01_TagBack.Pure) (a0 : Int) (a1 : Int) (a2 : Int) (w : World) (w0 : (Lit.int .i64 a0).wf = true) (w1 : (Lit.int .i64 a1).wf = true) (w2 : (Lit.int .i64 a2).wf = true) :
    Calls Try.prog 5 #[.int .i64 a0, .int .i64 a1, .int .i64 a2] w fun e w' => e = .returned (.bool true) ∧ Below w.heap.size w w' := by
  obtain ⟨k, h⟩ := P a0 a1 a2 w0 w1 w2
  refine (tendrillaw01_TagBack.calls k a0 a1 a2 true w h).mono ?_
  rintro e w' ⟨rfl, hd⟩
  exact ⟨rfl, hd.below⟩

end Go.Proofs.Ytfnkomlakgiicaa.PTagBack
