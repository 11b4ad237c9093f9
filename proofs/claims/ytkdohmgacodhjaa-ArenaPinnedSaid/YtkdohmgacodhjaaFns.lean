/- The contracts of the functions that this seat's laws reach; no condition. -/
import Derived.Test.YtkdohmgacodhjaaProg
import Derived.KernelRfl
import Derived.Test.YtkdohmgacodhjaaPx25
import Derived.Test.YtkdohmgacodhjaaFnsD
import Derived.Test.YtkdohmgacodhjaaFnsA0
import Derived.Test.YtkdohmgacodhjaaFnsA1
import Derived.Test.YtkdohmgacodhjaaFnsA2
import Derived.Test.YtkdohmgacodhjaaFnsA3
set_option linter.unusedVariables false
set_option linter.unusedSimpArgs false
namespace Go.Proofs.YtkdohmgacodhjaaFn
open Go Go.RowKit Go.Proofs.YtkdohmgacodhjaaPx
theorem place_Check_ok : SigOk Try.prog 14 place_Check_S ∧ Bodied Try.prog 14 :=
  ⟨fn_sound (s := place_Check_S) (T := []) (Λ := fun _ _ _ _ => none) 0 Try.func14 (c := bodyOf Try.f14) (by kernel_rfl) (by kernel_rfl) lkΓ_nil (by decide +kernel) (by decide +kernel) (fun _ _ _ => rfl) place_Check_cuts (fun x => place_Check_run  x), bodied_of Try.func14 (by decide +kernel) (by decide +kernel)⟩

theorem math_bits_Mul32_ok : SigOk Try.prog 40 math_bits_Mul32_S ∧ Bodied Try.prog 40 :=
  ⟨fn_sound (s := math_bits_Mul32_S) (T := []) (Λ := fun _ _ _ _ => none) 0 Try.func40 (c := bodyOf Try.f40) (by kernel_rfl) (by kernel_rfl) lkΓ_nil (by decide +kernel) (by decide +kernel) (fun _ _ _ => rfl) math_bits_Mul32_cuts (fun x => math_bits_Mul32_run  x), bodied_of Try.func40 (by decide +kernel) (by decide +kernel)⟩

theorem math_bits_Mul64_ok : SigOk Try.prog 41 math_bits_Mul64_S ∧ Bodied Try.prog 41 :=
  ⟨fn_sound (s := math_bits_Mul64_S) (T := []) (Λ := fun _ _ _ _ => none) 0 Try.func41 (c := bodyOf Try.f41) (by kernel_rfl) (by kernel_rfl) lkΓ_nil (by decide +kernel) (by decide +kernel) (fun _ _ _ => rfl) math_bits_Mul64_cuts (fun x => math_bits_Mul64_run  x), bodied_of Try.func41 (by decide +kernel) (by decide +kernel)⟩

theorem math_bits_Mul_ok : SigOk Try.prog 37 math_bits_Mul_S ∧ Bodied Try.prog 37 :=
  ⟨fn_sound (s := math_bits_Mul_S) (T := []) (Λ := fun _ _ _ _ => none) 0 Try.func37 (c := bodyOf Try.f37) (by kernel_rfl) (by kernel_rfl) (lkΓ_cons (g := 40) (s0 := math_bits_Mul32_S) math_bits_Mul32_ok (lkΓ_cons (g := 41) (s0 := math_bits_Mul64_S) math_bits_Mul64_ok lkΓ_nil)) (by decide +kernel) (by decide +kernel) (fun _ _ _ => rfl) math_bits_Mul_cuts (fun x => math_bits_Mul_run  x), bodied_of Try.func37 (by decide +kernel) (by decide +kernel)⟩

theorem slices_Repeat_ok : SigOk Try.prog 27 slices_Repeat_S ∧ Bodied Try.prog 27 :=
  ⟨fn_sound (s := slices_Repeat_S) (T := [(18, [7, 8])]) (Λ := slices_Repeat_Λ) 2000000 Try.func27 (c := bodyOf Try.f27) (by kernel_rfl) (by kernel_rfl) (lkΓ_cons (g := 37) (s0 := math_bits_Mul_S) math_bits_Mul_ok (lkΓ_flag (s0 := flagS) lkΓ_nil)) (by decide +kernel) (by decide +kernel) slices_Repeat_Λ0 slices_Repeat_cuts (fun x => slices_Repeat_run 2000000 x), bodied_of Try.func27 (by decide +kernel) (by decide +kernel)⟩

theorem era_New_ok : SigOk Try.prog 15 era_New_S ∧ Bodied Try.prog 15 :=
  ⟨fn_sound (s := era_New_S) (T := []) (Λ := fun _ _ _ _ => none) 0 Try.func15 (c := bodyOf Try.f15) (by kernel_rfl) (by kernel_rfl) (lkΓ_cons (g := 27) (s0 := slices_Repeat_S) slices_Repeat_ok lkΓ_nil) (by decide +kernel) (by decide +kernel) (fun _ _ _ => rfl) era_New_cuts (fun x => era_New_run  x), bodied_of Try.func15 (by decide +kernel) (by decide +kernel)⟩

theorem pool_New_ok : SigOk Try.prog 16 pool_New_S ∧ Bodied Try.prog 16 :=
  ⟨fn_sound (s := pool_New_S) (T := [(12, [2, 4, 24, 25])]) (Λ := pool_New_Λ) 2000000 Try.func16 (c := bodyOf Try.f16) (by kernel_rfl) (by kernel_rfl) lkΓ_nil (by decide +kernel) (by decide +kernel) pool_New_Λ0 pool_New_cuts (fun x => pool_New_run 2000000 x), bodied_of Try.func16 (by decide +kernel) (by decide +kernel)⟩

theorem arena_New_ok : SigOk Try.prog 5 arena_New_S ∧ Bodied Try.prog 5 :=
  ⟨fn_sound (s := arena_New_S) (T := [(20, [4, 9, 35, 36])]) (Λ := arena_New_Λ) 2000000 Try.func5 (c := bodyOf Try.f5) (by kernel_rfl) (by kernel_rfl) (lkΓ_cons (g := 14) (s0 := place_Check_S) place_Check_ok (lkΓ_cons (g := 15) (s0 := era_New_S) era_New_ok (lkΓ_cons (g := 16) (s0 := pool_New_S) pool_New_ok lkΓ_nil))) (by decide +kernel) (by decide +kernel) arena_New_Λ0 arena_New_cuts (fun x => arena_New_run 2000000 x), bodied_of Try.func5 (by decide +kernel) (by decide +kernel)⟩

theorem slices_Index_ok : SigOk Try.prog 39 slices_Index_S ∧ Bodied Try.prog 39 :=
  ⟨fn_sound (s := slices_Index_S) (T := [(6, [0, 1, 7, 8])]) (Λ := slices_Index_Λ) 2000000 Try.func39 (c := bodyOf Try.f39) (by kernel_rfl) (by kernel_rfl) lkΓ_nil (by decide +kernel) (by decide +kernel) slices_Index_Λ0 slices_Index_cuts (fun x => slices_Index_run 2000000 x), bodied_of Try.func39 (by decide +kernel) (by decide +kernel)⟩

theorem slices_Contains_ok : SigOk Try.prog 35 slices_Contains_S ∧ Bodied Try.prog 35 :=
  ⟨fn_sound (s := slices_Contains_S) (T := []) (Λ := fun _ _ _ _ => none) 0 Try.func35 (c := bodyOf Try.f35) (by kernel_rfl) (by kernel_rfl) (lkΓ_cons (g := 39) (s0 := slices_Index_S) slices_Index_ok lkΓ_nil) (by decide +kernel) (by decide +kernel) (fun _ _ _ => rfl) slices_Contains_cuts (fun x => slices_Contains_run  x), bodied_of Try.func35 (by decide +kernel) (by decide +kernel)⟩

theorem pool_Check_ok : SigOk Try.prog 25 pool_Check_S ∧ Bodied Try.prog 25 :=
  ⟨fn_sound (s := pool_Check_S) (T := [(28, [3, 4, 83, 84, 85]), (14, [1, 3, 4, 35, 36, 37])]) (Λ := pool_Check_Λ) 2000000 Try.func25 (c := bodyOf Try.f25) (by kernel_rfl) (by kernel_rfl) (lkΓ_cons (g := 35) (s0 := slices_Contains_S) slices_Contains_ok lkΓ_nil) (by decide +kernel) (by decide +kernel) pool_Check_Λ0 pool_Check_cuts (fun x => pool_Check_run 2000000 x), bodied_of Try.func25 (by decide +kernel) (by decide +kernel)⟩

theorem era_Check_1_ok : SigOk Try.prog 36 era_Check_1_S ∧ Bodied Try.prog 36 :=
  ⟨fn_sound (s := era_Check_1_S) (T := []) (Λ := fun _ _ _ _ => none) 0 Try.func36 (c := bodyOf Try.f36) (by kernel_rfl) (by kernel_rfl) lkΓ_nil (by decide +kernel) (by decide +kernel) (fun _ _ _ => rfl) era_Check_1_cuts (fun x => era_Check_1_run  x), bodied_of Try.func36 (by decide +kernel) (by decide +kernel)⟩

theorem slices_IndexFunc_era_Check_1_ok : SigOk Try.prog 38 slices_IndexFunc_era_Check_1_S ∧ Bodied Try.prog 38 :=
  ⟨fn_sound (s := slices_IndexFunc_era_Check_1_S) (T := [(6, [0, 1, 7, 8])]) (Λ := slices_IndexFunc_era_Check_1_Λ) 2000000 Try.func38 (c := bodyOf Try.f38) (by kernel_rfl) (by kernel_rfl) (lkΓ_cons (g := 36) (s0 := era_Check_1_S) era_Check_1_ok lkΓ_nil) (by decide +kernel) (by decide +kernel) slices_IndexFunc_era_Check_1_Λ0 slices_IndexFunc_era_Check_1_cuts (fun x => slices_IndexFunc_era_Check_1_run 2000000 x), bodied_of Try.func38 (by decide +kernel) (by decide +kernel)⟩

theorem slices_ContainsFunc_era_Check_1_ok : SigOk Try.prog 32 slices_ContainsFunc_era_Check_1_S ∧ Bodied Try.prog 32 :=
  ⟨fn_sound (s := slices_ContainsFunc_era_Check_1_S) (T := []) (Λ := fun _ _ _ _ => none) 0 Try.func32 (c := bodyOf Try.f32) (by kernel_rfl) (by kernel_rfl) (lkΓ_cons (g := 37000038) (s0 := slices_IndexFunc_era_Check_1_S) slices_IndexFunc_era_Check_1_ok lkΓ_nil) (by decide +kernel) (by decide +kernel) (fun _ _ _ => rfl) slices_ContainsFunc_era_Check_1_cuts (fun x => slices_ContainsFunc_era_Check_1_run  x), bodied_of Try.func32 (by decide +kernel) (by decide +kernel)⟩

theorem era_Check_ok : SigOk Try.prog 26 era_Check_S ∧ Bodied Try.prog 26 :=
  ⟨fn_sound (s := era_Check_S) (T := []) (Λ := fun _ _ _ _ => none) 0 Try.func26 (c := bodyOf Try.f26) (by kernel_rfl) (by kernel_rfl) (lkΓ_cons (g := 37000032) (s0 := slices_ContainsFunc_era_Check_1_S) slices_ContainsFunc_era_Check_1_ok lkΓ_nil) (by decide +kernel) (by decide +kernel) (fun _ _ _ => rfl) era_Check_cuts (fun x => era_Check_run  x), bodied_of Try.func26 (by decide +kernel) (by decide +kernel)⟩

theorem arena_Check_ok : SigOk Try.prog 12 arena_Check_S ∧ Bodied Try.prog 12 :=
  ⟨fn_sound (s := arena_Check_S) (T := [(6, [1, 7, 8])]) (Λ := arena_Check_Λ) 2000000 Try.func12 (c := bodyOf Try.f12) (by kernel_rfl) (by kernel_rfl) (lkΓ_cons (g := 25) (s0 := pool_Check_S) pool_Check_ok (lkΓ_cons (g := 26) (s0 := era_Check_S) era_Check_ok lkΓ_nil)) (by decide +kernel) (by decide +kernel) arena_Check_Λ0 arena_Check_cuts (fun x => arena_Check_run 2000000 x), bodied_of Try.func12 (by decide +kernel) (by decide +kernel)⟩

theorem arena_may_ok : SigOk Try.prog 17 arena_may_S ∧ Bodied Try.prog 17 :=
  ⟨fn_sound (s := arena_may_S) (T := []) (Λ := fun _ _ _ _ => none) 0 Try.func17 (c := bodyOf Try.f17) (by kernel_rfl) (by kernel_rfl) (lkΓ_cons (g := 12) (s0 := arena_Check_S) arena_Check_ok lkΓ_nil) (by decide +kernel) (by decide +kernel) (fun _ _ _ => rfl) arena_may_cuts (fun x => arena_may_run  x), bodied_of Try.func17 (by decide +kernel) (by decide +kernel)⟩

theorem era_Turn_1_ok : SigOk Try.prog 31 era_Turn_1_S ∧ Bodied Try.prog 31 :=
  ⟨fn_sound (s := era_Turn_1_S) (T := []) (Λ := fun _ _ _ _ => none) 0 Try.func31 (c := bodyOf Try.f31) (by kernel_rfl) (by kernel_rfl) lkΓ_nil (by decide +kernel) (by decide +kernel) (fun _ _ _ => rfl) era_Turn_1_cuts (fun x => era_Turn_1_run  x), bodied_of Try.func31 (by decide +kernel) (by decide +kernel)⟩

theorem slices_IndexFunc_era_Turn_1_ok : SigOk Try.prog 38 slices_IndexFunc_era_Turn_1_S ∧ Bodied Try.prog 38 :=
  ⟨fn_sound (s := slices_IndexFunc_era_Turn_1_S) (T := [(6, [0, 1, 7, 8])]) (Λ := slices_IndexFunc_era_Turn_1_Λ) 2000000 Try.func38 (c := bodyOf Try.f38) (by kernel_rfl) (by kernel_rfl) (lkΓ_cons (g := 31) (s0 := era_Turn_1_S) era_Turn_1_ok lkΓ_nil) (by decide +kernel) (by decide +kernel) slices_IndexFunc_era_Turn_1_Λ0 slices_IndexFunc_era_Turn_1_cuts (fun x => slices_IndexFunc_era_Turn_1_run 2000000 x), bodied_of Try.func38 (by decide +kernel) (by decide +kernel)⟩

theorem slices_ContainsFunc_era_Turn_1_ok : SigOk Try.prog 32 slices_ContainsFunc_era_Turn_1_S ∧ Bodied Try.prog 32 :=
  ⟨fn_sound (s := slices_ContainsFunc_era_Turn_1_S) (T := []) (Λ := fun _ _ _ _ => none) 0 Try.func32 (c := bodyOf Try.f32) (by kernel_rfl) (by kernel_rfl) (lkΓ_cons (g := 32000038) (s0 := slices_IndexFunc_era_Turn_1_S) slices_IndexFunc_era_Turn_1_ok lkΓ_nil) (by decide +kernel) (by decide +kernel) (fun _ _ _ => rfl) slices_ContainsFunc_era_Turn_1_cuts (fun x => slices_ContainsFunc_era_Turn_1_run  x), bodied_of Try.func32 (by decide +kernel) (by decide +kernel)⟩

theorem era_Turn_ok : SigOk Try.prog 20 era_Turn_S ∧ Bodied Try.prog 20 :=
  ⟨fn_sound (s := era_Turn_S) (T := []) (Λ := fun _ _ _ _ => none) 0 Try.func20 (c := bodyOf Try.f20) (by kernel_rfl) (by kernel_rfl) (lkΓ_cons (g := 26) (s0 := era_Check_S) era_Check_ok (lkΓ_cons (g := 30) (s0 := slices_Clone_S) slices_Clone_ok (lkΓ_cons (g := 32000032) (s0 := slices_ContainsFunc_era_Turn_1_S) slices_ContainsFunc_era_Turn_1_ok lkΓ_nil))) (by decide +kernel) (by decide +kernel) (fun _ _ _ => rfl) era_Turn_cuts (fun x => era_Turn_run  x), bodied_of Try.func20 (by decide +kernel) (by decide +kernel)⟩

theorem pool_own_ok : SigOk Try.prog 33 pool_own_S ∧ Bodied Try.prog 33 :=
  ⟨fn_sound (s := pool_own_S) (T := []) (Λ := fun _ _ _ _ => none) 0 Try.func33 (c := bodyOf Try.f33) (by kernel_rfl) (by kernel_rfl) (lkΓ_cons (g := 30) (s0 := slices_Clone_S) slices_Clone_ok lkΓ_nil) (by decide +kernel) (by decide +kernel) (fun _ _ _ => rfl) pool_own_cuts (fun x => pool_own_run  x), bodied_of Try.func33 (by decide +kernel) (by decide +kernel)⟩

theorem pool_Reclaim_ok : SigOk Try.prog 21 pool_Reclaim_S ∧ Bodied Try.prog 21 :=
  ⟨fn_sound (s := pool_Reclaim_S) (T := [(14, [1, 2, 4, 6, 19, 20, 21])]) (Λ := pool_Reclaim_Λ) 2000000 Try.func21 (c := bodyOf Try.f21) (by kernel_rfl) (by kernel_rfl) (lkΓ_cons (g := 25) (s0 := pool_Check_S) pool_Check_ok (lkΓ_cons (g := 33) (s0 := pool_own_S) pool_own_ok lkΓ_nil)) (by decide +kernel) (by decide +kernel) pool_Reclaim_Λ0 pool_Reclaim_cuts (fun x => pool_Reclaim_run 2000000 x), bodied_of Try.func21 (by decide +kernel) (by decide +kernel)⟩

theorem era_Safe_ok : SigOk Try.prog 22 era_Safe_S ∧ Bodied Try.prog 22 :=
  ⟨fn_sound (s := era_Safe_S) (T := []) (Λ := fun _ _ _ _ => none) 0 Try.func22 (c := bodyOf Try.f22) (by kernel_rfl) (by kernel_rfl) (lkΓ_cons (g := 26) (s0 := era_Check_S) era_Check_ok lkΓ_nil) (by decide +kernel) (by decide +kernel) (fun _ _ _ => rfl) era_Safe_cuts (fun x => era_Safe_run  x), bodied_of Try.func22 (by decide +kernel) (by decide +kernel)⟩

theorem arena_Turn_ok : SigOk Try.prog 8 arena_Turn_S ∧ Bodied Try.prog 8 :=
  ⟨fn_sound (s := arena_Turn_S) (T := [(16, [1, 2, 4, 5, 22, 23])]) (Λ := arena_Turn_Λ) 2000000 Try.func8 (c := bodyOf Try.f8) (by kernel_rfl) (by kernel_rfl) (lkΓ_cons (g := 17) (s0 := arena_may_S) arena_may_ok (lkΓ_cons (g := 20) (s0 := era_Turn_S) era_Turn_ok (lkΓ_cons (g := 21) (s0 := pool_Reclaim_S) pool_Reclaim_ok (lkΓ_cons (g := 22) (s0 := era_Safe_S) era_Safe_ok lkΓ_nil)))) (by decide +kernel) (by decide +kernel) arena_Turn_Λ0 arena_Turn_cuts (fun x => arena_Turn_run 2000000 x), bodied_of Try.func8 (by decide +kernel) (by decide +kernel)⟩

theorem tag_Pack_ok : SigOk Try.prog 34 tag_Pack_S ∧ Bodied Try.prog 34 :=
  ⟨fn_sound (s := tag_Pack_S) (T := []) (Λ := fun _ _ _ _ => none) 0 Try.func34 (c := bodyOf Try.f34) (by kernel_rfl) (by kernel_rfl) lkΓ_nil (by decide +kernel) (by decide +kernel) (fun _ _ _ => rfl) tag_Pack_cuts (fun x => tag_Pack_run  x), bodied_of Try.func34 (by decide +kernel) (by decide +kernel)⟩

theorem pool_Take_ok : SigOk Try.prog 23 pool_Take_S ∧ Bodied Try.prog 23 :=
  ⟨fn_sound (s := pool_Take_S) (T := []) (Λ := fun _ _ _ _ => none) 0 Try.func23 (c := bodyOf Try.f23) (by kernel_rfl) (by kernel_rfl) (lkΓ_cons (g := 25) (s0 := pool_Check_S) pool_Check_ok (lkΓ_cons (g := 33) (s0 := pool_own_S) pool_own_ok (lkΓ_cons (g := 34) (s0 := tag_Pack_S) tag_Pack_ok lkΓ_nil))) (by decide +kernel) (by decide +kernel) (fun _ _ _ => rfl) pool_Take_cuts (fun x => pool_Take_run  x), bodied_of Try.func23 (by decide +kernel) (by decide +kernel)⟩

theorem arena_Take_ok : SigOk Try.prog 9 arena_Take_S ∧ Bodied Try.prog 9 :=
  ⟨fn_sound (s := arena_Take_S) (T := []) (Λ := fun _ _ _ _ => none) 0 Try.func9 (c := bodyOf Try.f9) (by kernel_rfl) (by kernel_rfl) (lkΓ_cons (g := 17) (s0 := arena_may_S) arena_may_ok (lkΓ_cons (g := 23) (s0 := pool_Take_S) pool_Take_ok lkΓ_nil)) (by decide +kernel) (by decide +kernel) (fun _ _ _ => rfl) arena_Take_cuts (fun x => arena_Take_run  x), bodied_of Try.func9 (by decide +kernel) (by decide +kernel)⟩

theorem tag_Unpack_ok : SigOk Try.prog 10 tag_Unpack_S ∧ Bodied Try.prog 10 :=
  ⟨fn_sound (s := tag_Unpack_S) (T := []) (Λ := fun _ _ _ _ => none) 0 Try.func10 (c := bodyOf Try.f10) (by kernel_rfl) (by kernel_rfl) lkΓ_nil (by decide +kernel) (by decide +kernel) (fun _ _ _ => rfl) tag_Unpack_cuts (fun x => tag_Unpack_run  x), bodied_of Try.func10 (by decide +kernel) (by decide +kernel)⟩

theorem pool_Retire_ok : SigOk Try.prog 24 pool_Retire_S ∧ Bodied Try.prog 24 :=
  ⟨fn_sound (s := pool_Retire_S) (T := []) (Λ := fun _ _ _ _ => none) 0 Try.func24 (c := bodyOf Try.f24) (by kernel_rfl) (by kernel_rfl) (lkΓ_cons (g := 10) (s0 := tag_Unpack_S) tag_Unpack_ok (lkΓ_cons (g := 25) (s0 := pool_Check_S) pool_Check_ok (lkΓ_cons (g := 33) (s0 := pool_own_S) pool_own_ok lkΓ_nil))) (by decide +kernel) (by decide +kernel) (fun _ _ _ => rfl) pool_Retire_cuts (fun x => pool_Retire_run  x), bodied_of Try.func24 (by decide +kernel) (by decide +kernel)⟩

theorem arena_Retire_ok : SigOk Try.prog 11 arena_Retire_S ∧ Bodied Try.prog 11 :=
  ⟨fn_sound (s := arena_Retire_S) (T := []) (Λ := fun _ _ _ _ => none) 0 Try.func11 (c := bodyOf Try.f11) (by kernel_rfl) (by kernel_rfl) (lkΓ_cons (g := 17) (s0 := arena_may_S) arena_may_ok (lkΓ_cons (g := 24) (s0 := pool_Retire_S) pool_Retire_ok lkΓ_nil)) (by decide +kernel) (by decide +kernel) (fun _ _ _ => rfl) arena_Retire_cuts (fun x => arena_Retire_run  x), bodied_of Try.func11 (by decide +kernel) (by decide +kernel)⟩

theorem tendrillaw07_plain_ok : SigOk Try.prog 13 tendrillaw07_plain_S ∧ Bodied Try.prog 13 :=
  ⟨fn_sound (s := tendrillaw07_plain_S) (T := []) (Λ := fun _ _ _ _ => none) 0 Try.func13 (c := bodyOf Try.f13) (by kernel_rfl) (by kernel_rfl) lkΓ_nil (by decide +kernel) (by decide +kernel) (fun _ _ _ => rfl) tendrillaw07_plain_cuts (fun x => tendrillaw07_plain_run  x), bodied_of Try.func13 (by decide +kernel) (by decide +kernel)⟩

theorem tendrillaw07_live_ok : SigOk Try.prog 4 tendrillaw07_live_S ∧ Bodied Try.prog 4 :=
  ⟨fn_sound (s := tendrillaw07_live_S) (T := []) (Λ := fun _ _ _ _ => none) 0 Try.func4 (c := bodyOf Try.f4) (by kernel_rfl) (by kernel_rfl) (lkΓ_cons (g := 5) (s0 := arena_New_S) arena_New_ok (lkΓ_cons (g := 8) (s0 := arena_Turn_S) arena_Turn_ok (lkΓ_cons (g := 9) (s0 := arena_Take_S) arena_Take_ok (lkΓ_cons (g := 11) (s0 := arena_Retire_S) arena_Retire_ok (lkΓ_cons (g := 13) (s0 := tendrillaw07_plain_S) tendrillaw07_plain_ok lkΓ_nil))))) (by decide +kernel) (by decide +kernel) (fun _ _ _ => rfl) tendrillaw07_live_cuts (fun x => tendrillaw07_live_run  x), bodied_of Try.func4 (by decide +kernel) (by decide +kernel)⟩

theorem era_pinned_ok : SigOk Try.prog 28 era_pinned_S ∧ Bodied Try.prog 28 :=
  ⟨fn_sound (s := era_pinned_S) (T := []) (Λ := fun _ _ _ _ => none) 0 Try.func28 (c := bodyOf Try.f28) (by kernel_rfl) (by kernel_rfl) (lkΓ_cons (g := 26) (s0 := era_Check_S) era_Check_ok lkΓ_nil) (by decide +kernel) (by decide +kernel) (fun _ _ _ => rfl) era_pinned_cuts (fun x => era_pinned_run  x), bodied_of Try.func28 (by decide +kernel) (by decide +kernel)⟩

theorem era_with_ok : SigOk Try.prog 29 era_with_S ∧ Bodied Try.prog 29 :=
  ⟨fn_sound (s := era_with_S) (T := []) (Λ := fun _ _ _ _ => none) 0 Try.func29 (c := bodyOf Try.f29) (by kernel_rfl) (by kernel_rfl) (lkΓ_cons (g := 30) (s0 := slices_Clone_S) slices_Clone_ok lkΓ_nil) (by decide +kernel) (by decide +kernel) (fun _ _ _ => rfl) era_with_cuts (fun x => era_with_run  x), bodied_of Try.func29 (by decide +kernel) (by decide +kernel)⟩

theorem era_Pin_ok : SigOk Try.prog 18 era_Pin_S ∧ Bodied Try.prog 18 :=
  ⟨fn_sound (s := era_Pin_S) (T := []) (Λ := fun _ _ _ _ => none) 0 Try.func18 (c := bodyOf Try.f18) (by kernel_rfl) (by kernel_rfl) (lkΓ_cons (g := 28) (s0 := era_pinned_S) era_pinned_ok (lkΓ_cons (g := 29) (s0 := era_with_S) era_with_ok lkΓ_nil)) (by decide +kernel) (by decide +kernel) (fun _ _ _ => rfl) era_Pin_cuts (fun x => era_Pin_run  x), bodied_of Try.func18 (by decide +kernel) (by decide +kernel)⟩

theorem arena_Pin_ok : SigOk Try.prog 6 arena_Pin_S ∧ Bodied Try.prog 6 :=
  ⟨fn_sound (s := arena_Pin_S) (T := []) (Λ := fun _ _ _ _ => none) 0 Try.func6 (c := bodyOf Try.f6) (by kernel_rfl) (by kernel_rfl) (lkΓ_cons (g := 17) (s0 := arena_may_S) arena_may_ok (lkΓ_cons (g := 18) (s0 := era_Pin_S) era_Pin_ok lkΓ_nil)) (by decide +kernel) (by decide +kernel) (fun _ _ _ => rfl) arena_Pin_cuts (fun x => arena_Pin_run  x), bodied_of Try.func6 (by decide +kernel) (by decide +kernel)⟩

theorem era_Unpin_ok : SigOk Try.prog 19 era_Unpin_S ∧ Bodied Try.prog 19 :=
  ⟨fn_sound (s := era_Unpin_S) (T := []) (Λ := fun _ _ _ _ => none) 0 Try.func19 (c := bodyOf Try.f19) (by kernel_rfl) (by kernel_rfl) (lkΓ_cons (g := 28) (s0 := era_pinned_S) era_pinned_ok (lkΓ_cons (g := 29) (s0 := era_with_S) era_with_ok lkΓ_nil)) (by decide +kernel) (by decide +kernel) (fun _ _ _ => rfl) era_Unpin_cuts (fun x => era_Unpin_run  x), bodied_of Try.func19 (by decide +kernel) (by decide +kernel)⟩

theorem arena_End_ok : SigOk Try.prog 7 arena_End_S ∧ Bodied Try.prog 7 :=
  ⟨fn_sound (s := arena_End_S) (T := []) (Λ := fun _ _ _ _ => none) 0 Try.func7 (c := bodyOf Try.f7) (by kernel_rfl) (by kernel_rfl) (lkΓ_cons (g := 8) (s0 := arena_Turn_S) arena_Turn_ok (lkΓ_cons (g := 17) (s0 := arena_may_S) arena_may_ok (lkΓ_cons (g := 19) (s0 := era_Unpin_S) era_Unpin_ok lkΓ_nil))) (by decide +kernel) (by decide +kernel) (fun _ _ _ => rfl) arena_End_cuts (fun x => arena_End_run  x), bodied_of Try.func7 (by decide +kernel) (by decide +kernel)⟩

theorem tendrillaw07_ArenaPinned_ok : SigOk Try.prog 3 tendrillaw07_ArenaPinned_S ∧ Bodied Try.prog 3 :=
  ⟨fn_sound (s := tendrillaw07_ArenaPinned_S) (T := [(122, [1, 7, 9, 10, 11, 16, 22, 24, 27, 68, 69, 70, 212, 213, 219, 220, 221]), (116, [1, 7, 9, 10, 11, 16, 22, 24, 68, 69, 70, 212, 213]), (62, [1, 7, 9, 10, 11, 31, 34, 68, 69, 70, 130, 131]), (26, [1, 7, 9, 10, 11, 68, 69, 70])]) (Λ := tendrillaw07_ArenaPinned_Λ) 2000000 Try.func3 (c := bodyOf Try.f3) (by kernel_rfl) (by kernel_rfl) (lkΓ_cons (g := 4) (s0 := tendrillaw07_live_S) tendrillaw07_live_ok (lkΓ_cons (g := 5) (s0 := arena_New_S) arena_New_ok (lkΓ_cons (g := 6) (s0 := arena_Pin_S) arena_Pin_ok (lkΓ_cons (g := 7) (s0 := arena_End_S) arena_End_ok (lkΓ_cons (g := 8) (s0 := arena_Turn_S) arena_Turn_ok (lkΓ_cons (g := 9) (s0 := arena_Take_S) arena_Take_ok (lkΓ_cons (g := 10) (s0 := tag_Unpack_S) tag_Unpack_ok (lkΓ_cons (g := 11) (s0 := arena_Retire_S) arena_Retire_ok (lkΓ_cons (g := 12) (s0 := arena_Check_S) arena_Check_ok (lkΓ_flag (s0 := flagS) lkΓ_nil)))))))))) (by decide +kernel) (by decide +kernel) tendrillaw07_ArenaPinned_Λ0 tendrillaw07_ArenaPinned_cuts (fun x => tendrillaw07_ArenaPinned_run 2000000 x), bodied_of Try.func3 (by decide +kernel) (by decide +kernel)⟩

end Go.Proofs.YtkdohmgacodhjaaFn
