/- The contracts of the functions that this seat's laws reach; no condition. -/
import Derived.Test.YtcoiboghdmmdcacProg
import Derived.KernelRfl
import Derived.Test.YtcoiboghdmmdcacPx25
import Derived.Test.YtcoiboghdmmdcacFnsD
import Derived.Test.YtcoiboghdmmdcacFnsA0
import Derived.Test.YtcoiboghdmmdcacFnsA1
import Derived.Test.YtcoiboghdmmdcacFnsA2
import Derived.Test.YtcoiboghdmmdcacFnsA3
import Derived.Test.YtcoiboghdmmdcacFnsA4
import Derived.Test.YtcoiboghdmmdcacFnsA5
import Derived.Test.YtcoiboghdmmdcacFnsA6
set_option linter.unusedVariables false
set_option linter.unusedSimpArgs false
namespace Go.Proofs.YtcoiboghdmmdcacFn
open Go Go.RowKit Go.Proofs.YtcoiboghdmmdcacPx
theorem place_Check_ok : SigOk Try.prog 34 place_Check_S ∧ Bodied Try.prog 34 :=
  ⟨fn_sound (s := place_Check_S) (T := []) (Λ := fun _ _ _ _ => none) 0 Try.func34 (c := bodyOf Try.f34) (by kernel_rfl) (by kernel_rfl) lkΓ_nil (by decide +kernel) (by decide +kernel) (fun _ _ _ => rfl) place_Check_cuts (fun x => place_Check_run  x), bodied_of Try.func34 (by decide +kernel) (by decide +kernel)⟩

theorem math_bits_Mul32_ok : SigOk Try.prog 79 math_bits_Mul32_S ∧ Bodied Try.prog 79 :=
  ⟨fn_sound (s := math_bits_Mul32_S) (T := []) (Λ := fun _ _ _ _ => none) 0 Try.func79 (c := bodyOf Try.f79) (by kernel_rfl) (by kernel_rfl) lkΓ_nil (by decide +kernel) (by decide +kernel) (fun _ _ _ => rfl) math_bits_Mul32_cuts (fun x => math_bits_Mul32_run  x), bodied_of Try.func79 (by decide +kernel) (by decide +kernel)⟩

theorem math_bits_Mul64_ok : SigOk Try.prog 80 math_bits_Mul64_S ∧ Bodied Try.prog 80 :=
  ⟨fn_sound (s := math_bits_Mul64_S) (T := []) (Λ := fun _ _ _ _ => none) 0 Try.func80 (c := bodyOf Try.f80) (by kernel_rfl) (by kernel_rfl) lkΓ_nil (by decide +kernel) (by decide +kernel) (fun _ _ _ => rfl) math_bits_Mul64_cuts (fun x => math_bits_Mul64_run  x), bodied_of Try.func80 (by decide +kernel) (by decide +kernel)⟩

theorem math_bits_Mul_ok : SigOk Try.prog 76 math_bits_Mul_S ∧ Bodied Try.prog 76 :=
  ⟨fn_sound (s := math_bits_Mul_S) (T := []) (Λ := fun _ _ _ _ => none) 0 Try.func76 (c := bodyOf Try.f76) (by kernel_rfl) (by kernel_rfl) (lkΓ_cons (g := 79) (s0 := math_bits_Mul32_S) math_bits_Mul32_ok (lkΓ_cons (g := 80) (s0 := math_bits_Mul64_S) math_bits_Mul64_ok lkΓ_nil)) (by decide +kernel) (by decide +kernel) (fun _ _ _ => rfl) math_bits_Mul_cuts (fun x => math_bits_Mul_run  x), bodied_of Try.func76 (by decide +kernel) (by decide +kernel)⟩

theorem slices_Repeat_ok : SigOk Try.prog 63 slices_Repeat_S ∧ Bodied Try.prog 63 :=
  ⟨fn_sound (s := slices_Repeat_S) (T := [(18, [7, 8])]) (Λ := slices_Repeat_Λ) 2000000 Try.func63 (c := bodyOf Try.f63) (by kernel_rfl) (by kernel_rfl) (lkΓ_cons (g := 76) (s0 := math_bits_Mul_S) math_bits_Mul_ok (lkΓ_flag (s0 := flagS) lkΓ_nil)) (by decide +kernel) (by decide +kernel) slices_Repeat_Λ0 slices_Repeat_cuts (fun x => slices_Repeat_run 2000000 x), bodied_of Try.func63 (by decide +kernel) (by decide +kernel)⟩

theorem era_New_ok : SigOk Try.prog 35 era_New_S ∧ Bodied Try.prog 35 :=
  ⟨fn_sound (s := era_New_S) (T := []) (Λ := fun _ _ _ _ => none) 0 Try.func35 (c := bodyOf Try.f35) (by kernel_rfl) (by kernel_rfl) (lkΓ_cons (g := 63) (s0 := slices_Repeat_S) slices_Repeat_ok lkΓ_nil) (by decide +kernel) (by decide +kernel) (fun _ _ _ => rfl) era_New_cuts (fun x => era_New_run  x), bodied_of Try.func35 (by decide +kernel) (by decide +kernel)⟩

theorem pool_New_ok : SigOk Try.prog 36 pool_New_S ∧ Bodied Try.prog 36 :=
  ⟨fn_sound (s := pool_New_S) (T := [(12, [2, 4, 24, 25])]) (Λ := pool_New_Λ) 2000000 Try.func36 (c := bodyOf Try.f36) (by kernel_rfl) (by kernel_rfl) lkΓ_nil (by decide +kernel) (by decide +kernel) pool_New_Λ0 pool_New_cuts (fun x => pool_New_run 2000000 x), bodied_of Try.func36 (by decide +kernel) (by decide +kernel)⟩

theorem arena_New_ok : SigOk Try.prog 11 arena_New_S ∧ Bodied Try.prog 11 :=
  ⟨fn_sound (s := arena_New_S) (T := [(20, [4, 9, 35, 36])]) (Λ := arena_New_Λ) 2000000 Try.func11 (c := bodyOf Try.f11) (by kernel_rfl) (by kernel_rfl) (lkΓ_cons (g := 34) (s0 := place_Check_S) place_Check_ok (lkΓ_cons (g := 35) (s0 := era_New_S) era_New_ok (lkΓ_cons (g := 36) (s0 := pool_New_S) pool_New_ok lkΓ_nil))) (by decide +kernel) (by decide +kernel) arena_New_Λ0 arena_New_cuts (fun x => arena_New_run 2000000 x), bodied_of Try.func11 (by decide +kernel) (by decide +kernel)⟩

theorem slices_Index_ok : SigOk Try.prog 77 slices_Index_S ∧ Bodied Try.prog 77 :=
  ⟨fn_sound (s := slices_Index_S) (T := [(6, [0, 1, 7, 8])]) (Λ := slices_Index_Λ) 2000000 Try.func77 (c := bodyOf Try.f77) (by kernel_rfl) (by kernel_rfl) lkΓ_nil (by decide +kernel) (by decide +kernel) slices_Index_Λ0 slices_Index_cuts (fun x => slices_Index_run 2000000 x), bodied_of Try.func77 (by decide +kernel) (by decide +kernel)⟩

theorem slices_Contains_ok : SigOk Try.prog 64 slices_Contains_S ∧ Bodied Try.prog 64 :=
  ⟨fn_sound (s := slices_Contains_S) (T := []) (Λ := fun _ _ _ _ => none) 0 Try.func64 (c := bodyOf Try.f64) (by kernel_rfl) (by kernel_rfl) (lkΓ_cons (g := 77) (s0 := slices_Index_S) slices_Index_ok lkΓ_nil) (by decide +kernel) (by decide +kernel) (fun _ _ _ => rfl) slices_Contains_cuts (fun x => slices_Contains_run  x), bodied_of Try.func64 (by decide +kernel) (by decide +kernel)⟩

theorem pool_Check_ok : SigOk Try.prog 42 pool_Check_S ∧ Bodied Try.prog 42 :=
  ⟨fn_sound (s := pool_Check_S) (T := [(28, [3, 4, 83, 84, 85]), (14, [1, 3, 4, 35, 36, 37])]) (Λ := pool_Check_Λ) 2000000 Try.func42 (c := bodyOf Try.f42) (by kernel_rfl) (by kernel_rfl) (lkΓ_cons (g := 64) (s0 := slices_Contains_S) slices_Contains_ok lkΓ_nil) (by decide +kernel) (by decide +kernel) pool_Check_Λ0 pool_Check_cuts (fun x => pool_Check_run 2000000 x), bodied_of Try.func42 (by decide +kernel) (by decide +kernel)⟩

theorem era_Check_1_ok : SigOk Try.prog 65 era_Check_1_S ∧ Bodied Try.prog 65 :=
  ⟨fn_sound (s := era_Check_1_S) (T := []) (Λ := fun _ _ _ _ => none) 0 Try.func65 (c := bodyOf Try.f65) (by kernel_rfl) (by kernel_rfl) lkΓ_nil (by decide +kernel) (by decide +kernel) (fun _ _ _ => rfl) era_Check_1_cuts (fun x => era_Check_1_run  x), bodied_of Try.func65 (by decide +kernel) (by decide +kernel)⟩

theorem slices_IndexFunc_era_Check_1_ok : SigOk Try.prog 78 slices_IndexFunc_era_Check_1_S ∧ Bodied Try.prog 78 :=
  ⟨fn_sound (s := slices_IndexFunc_era_Check_1_S) (T := [(6, [0, 1, 7, 8])]) (Λ := slices_IndexFunc_era_Check_1_Λ) 2000000 Try.func78 (c := bodyOf Try.f78) (by kernel_rfl) (by kernel_rfl) (lkΓ_cons (g := 65) (s0 := era_Check_1_S) era_Check_1_ok lkΓ_nil) (by decide +kernel) (by decide +kernel) slices_IndexFunc_era_Check_1_Λ0 slices_IndexFunc_era_Check_1_cuts (fun x => slices_IndexFunc_era_Check_1_run 2000000 x), bodied_of Try.func78 (by decide +kernel) (by decide +kernel)⟩

theorem slices_ContainsFunc_era_Check_1_ok : SigOk Try.prog 66 slices_ContainsFunc_era_Check_1_S ∧ Bodied Try.prog 66 :=
  ⟨fn_sound (s := slices_ContainsFunc_era_Check_1_S) (T := []) (Λ := fun _ _ _ _ => none) 0 Try.func66 (c := bodyOf Try.f66) (by kernel_rfl) (by kernel_rfl) (lkΓ_cons (g := 66000078) (s0 := slices_IndexFunc_era_Check_1_S) slices_IndexFunc_era_Check_1_ok lkΓ_nil) (by decide +kernel) (by decide +kernel) (fun _ _ _ => rfl) slices_ContainsFunc_era_Check_1_cuts (fun x => slices_ContainsFunc_era_Check_1_run  x), bodied_of Try.func66 (by decide +kernel) (by decide +kernel)⟩

theorem era_Check_ok : SigOk Try.prog 43 era_Check_S ∧ Bodied Try.prog 43 :=
  ⟨fn_sound (s := era_Check_S) (T := []) (Λ := fun _ _ _ _ => none) 0 Try.func43 (c := bodyOf Try.f43) (by kernel_rfl) (by kernel_rfl) (lkΓ_cons (g := 66000066) (s0 := slices_ContainsFunc_era_Check_1_S) slices_ContainsFunc_era_Check_1_ok lkΓ_nil) (by decide +kernel) (by decide +kernel) (fun _ _ _ => rfl) era_Check_cuts (fun x => era_Check_run  x), bodied_of Try.func43 (by decide +kernel) (by decide +kernel)⟩

theorem arena_Check_ok : SigOk Try.prog 14 arena_Check_S ∧ Bodied Try.prog 14 :=
  ⟨fn_sound (s := arena_Check_S) (T := [(6, [1, 7, 8])]) (Λ := arena_Check_Λ) 2000000 Try.func14 (c := bodyOf Try.f14) (by kernel_rfl) (by kernel_rfl) (lkΓ_cons (g := 42) (s0 := pool_Check_S) pool_Check_ok (lkΓ_cons (g := 43) (s0 := era_Check_S) era_Check_ok lkΓ_nil)) (by decide +kernel) (by decide +kernel) arena_Check_Λ0 arena_Check_cuts (fun x => arena_Check_run 2000000 x), bodied_of Try.func14 (by decide +kernel) (by decide +kernel)⟩

theorem arena_may_ok : SigOk Try.prog 46 arena_may_S ∧ Bodied Try.prog 46 :=
  ⟨fn_sound (s := arena_may_S) (T := []) (Λ := fun _ _ _ _ => none) 0 Try.func46 (c := bodyOf Try.f46) (by kernel_rfl) (by kernel_rfl) (lkΓ_cons (g := 14) (s0 := arena_Check_S) arena_Check_ok lkΓ_nil) (by decide +kernel) (by decide +kernel) (fun _ _ _ => rfl) arena_may_cuts (fun x => arena_may_run  x), bodied_of Try.func46 (by decide +kernel) (by decide +kernel)⟩

theorem pool_own_ok : SigOk Try.prog 67 pool_own_S ∧ Bodied Try.prog 67 :=
  ⟨fn_sound (s := pool_own_S) (T := []) (Λ := fun _ _ _ _ => none) 0 Try.func67 (c := bodyOf Try.f67) (by kernel_rfl) (by kernel_rfl) (lkΓ_cons (g := 71) (s0 := slices_Clone_S) slices_Clone_ok lkΓ_nil) (by decide +kernel) (by decide +kernel) (fun _ _ _ => rfl) pool_own_cuts (fun x => pool_own_run  x), bodied_of Try.func67 (by decide +kernel) (by decide +kernel)⟩

theorem tag_Pack_ok : SigOk Try.prog 68 tag_Pack_S ∧ Bodied Try.prog 68 :=
  ⟨fn_sound (s := tag_Pack_S) (T := []) (Λ := fun _ _ _ _ => none) 0 Try.func68 (c := bodyOf Try.f68) (by kernel_rfl) (by kernel_rfl) lkΓ_nil (by decide +kernel) (by decide +kernel) (fun _ _ _ => rfl) tag_Pack_cuts (fun x => tag_Pack_run  x), bodied_of Try.func68 (by decide +kernel) (by decide +kernel)⟩

theorem pool_Take_ok : SigOk Try.prog 47 pool_Take_S ∧ Bodied Try.prog 47 :=
  ⟨fn_sound (s := pool_Take_S) (T := []) (Λ := fun _ _ _ _ => none) 0 Try.func47 (c := bodyOf Try.f47) (by kernel_rfl) (by kernel_rfl) (lkΓ_cons (g := 42) (s0 := pool_Check_S) pool_Check_ok (lkΓ_cons (g := 67) (s0 := pool_own_S) pool_own_ok (lkΓ_cons (g := 68) (s0 := tag_Pack_S) tag_Pack_ok lkΓ_nil))) (by decide +kernel) (by decide +kernel) (fun _ _ _ => rfl) pool_Take_cuts (fun x => pool_Take_run  x), bodied_of Try.func47 (by decide +kernel) (by decide +kernel)⟩

theorem arena_Take_ok : SigOk Try.prog 16 arena_Take_S ∧ Bodied Try.prog 16 :=
  ⟨fn_sound (s := arena_Take_S) (T := []) (Λ := fun _ _ _ _ => none) 0 Try.func16 (c := bodyOf Try.f16) (by kernel_rfl) (by kernel_rfl) (lkΓ_cons (g := 46) (s0 := arena_may_S) arena_may_ok (lkΓ_cons (g := 47) (s0 := pool_Take_S) pool_Take_ok lkΓ_nil)) (by decide +kernel) (by decide +kernel) (fun _ _ _ => rfl) arena_Take_cuts (fun x => arena_Take_run  x), bodied_of Try.func16 (by decide +kernel) (by decide +kernel)⟩

theorem tag_Unpack_ok : SigOk Try.prog 31 tag_Unpack_S ∧ Bodied Try.prog 31 :=
  ⟨fn_sound (s := tag_Unpack_S) (T := []) (Λ := fun _ _ _ _ => none) 0 Try.func31 (c := bodyOf Try.f31) (by kernel_rfl) (by kernel_rfl) lkΓ_nil (by decide +kernel) (by decide +kernel) (fun _ _ _ => rfl) tag_Unpack_cuts (fun x => tag_Unpack_run  x), bodied_of Try.func31 (by decide +kernel) (by decide +kernel)⟩

theorem pool_Retire_ok : SigOk Try.prog 48 pool_Retire_S ∧ Bodied Try.prog 48 :=
  ⟨fn_sound (s := pool_Retire_S) (T := []) (Λ := fun _ _ _ _ => none) 0 Try.func48 (c := bodyOf Try.f48) (by kernel_rfl) (by kernel_rfl) (lkΓ_cons (g := 31) (s0 := tag_Unpack_S) tag_Unpack_ok (lkΓ_cons (g := 42) (s0 := pool_Check_S) pool_Check_ok (lkΓ_cons (g := 67) (s0 := pool_own_S) pool_own_ok lkΓ_nil))) (by decide +kernel) (by decide +kernel) (fun _ _ _ => rfl) pool_Retire_cuts (fun x => pool_Retire_run  x), bodied_of Try.func48 (by decide +kernel) (by decide +kernel)⟩

theorem arena_Retire_ok : SigOk Try.prog 17 arena_Retire_S ∧ Bodied Try.prog 17 :=
  ⟨fn_sound (s := arena_Retire_S) (T := []) (Λ := fun _ _ _ _ => none) 0 Try.func17 (c := bodyOf Try.f17) (by kernel_rfl) (by kernel_rfl) (lkΓ_cons (g := 46) (s0 := arena_may_S) arena_may_ok (lkΓ_cons (g := 48) (s0 := pool_Retire_S) pool_Retire_ok lkΓ_nil)) (by decide +kernel) (by decide +kernel) (fun _ _ _ => rfl) arena_Retire_cuts (fun x => arena_Retire_run  x), bodied_of Try.func17 (by decide +kernel) (by decide +kernel)⟩

theorem era_Turn_1_ok : SigOk Try.prog 72 era_Turn_1_S ∧ Bodied Try.prog 72 :=
  ⟨fn_sound (s := era_Turn_1_S) (T := []) (Λ := fun _ _ _ _ => none) 0 Try.func72 (c := bodyOf Try.f72) (by kernel_rfl) (by kernel_rfl) lkΓ_nil (by decide +kernel) (by decide +kernel) (fun _ _ _ => rfl) era_Turn_1_cuts (fun x => era_Turn_1_run  x), bodied_of Try.func72 (by decide +kernel) (by decide +kernel)⟩

theorem slices_IndexFunc_era_Turn_1_ok : SigOk Try.prog 78 slices_IndexFunc_era_Turn_1_S ∧ Bodied Try.prog 78 :=
  ⟨fn_sound (s := slices_IndexFunc_era_Turn_1_S) (T := [(6, [0, 1, 7, 8])]) (Λ := slices_IndexFunc_era_Turn_1_Λ) 2000000 Try.func78 (c := bodyOf Try.f78) (by kernel_rfl) (by kernel_rfl) (lkΓ_cons (g := 72) (s0 := era_Turn_1_S) era_Turn_1_ok lkΓ_nil) (by decide +kernel) (by decide +kernel) slices_IndexFunc_era_Turn_1_Λ0 slices_IndexFunc_era_Turn_1_cuts (fun x => slices_IndexFunc_era_Turn_1_run 2000000 x), bodied_of Try.func78 (by decide +kernel) (by decide +kernel)⟩

theorem slices_ContainsFunc_era_Turn_1_ok : SigOk Try.prog 66 slices_ContainsFunc_era_Turn_1_S ∧ Bodied Try.prog 66 :=
  ⟨fn_sound (s := slices_ContainsFunc_era_Turn_1_S) (T := []) (Λ := fun _ _ _ _ => none) 0 Try.func66 (c := bodyOf Try.f66) (by kernel_rfl) (by kernel_rfl) (lkΓ_cons (g := 73000078) (s0 := slices_IndexFunc_era_Turn_1_S) slices_IndexFunc_era_Turn_1_ok lkΓ_nil) (by decide +kernel) (by decide +kernel) (fun _ _ _ => rfl) slices_ContainsFunc_era_Turn_1_cuts (fun x => slices_ContainsFunc_era_Turn_1_run  x), bodied_of Try.func66 (by decide +kernel) (by decide +kernel)⟩

theorem era_Turn_ok : SigOk Try.prog 53 era_Turn_S ∧ Bodied Try.prog 53 :=
  ⟨fn_sound (s := era_Turn_S) (T := []) (Λ := fun _ _ _ _ => none) 0 Try.func53 (c := bodyOf Try.f53) (by kernel_rfl) (by kernel_rfl) (lkΓ_cons (g := 43) (s0 := era_Check_S) era_Check_ok (lkΓ_cons (g := 71) (s0 := slices_Clone_S) slices_Clone_ok (lkΓ_cons (g := 73000066) (s0 := slices_ContainsFunc_era_Turn_1_S) slices_ContainsFunc_era_Turn_1_ok lkΓ_nil))) (by decide +kernel) (by decide +kernel) (fun _ _ _ => rfl) era_Turn_cuts (fun x => era_Turn_run  x), bodied_of Try.func53 (by decide +kernel) (by decide +kernel)⟩

theorem pool_Reclaim_ok : SigOk Try.prog 54 pool_Reclaim_S ∧ Bodied Try.prog 54 :=
  ⟨fn_sound (s := pool_Reclaim_S) (T := [(14, [1, 2, 4, 6, 19, 20, 21])]) (Λ := pool_Reclaim_Λ) 2000000 Try.func54 (c := bodyOf Try.f54) (by kernel_rfl) (by kernel_rfl) (lkΓ_cons (g := 42) (s0 := pool_Check_S) pool_Check_ok (lkΓ_cons (g := 67) (s0 := pool_own_S) pool_own_ok lkΓ_nil)) (by decide +kernel) (by decide +kernel) pool_Reclaim_Λ0 pool_Reclaim_cuts (fun x => pool_Reclaim_run 2000000 x), bodied_of Try.func54 (by decide +kernel) (by decide +kernel)⟩

theorem era_Safe_ok : SigOk Try.prog 55 era_Safe_S ∧ Bodied Try.prog 55 :=
  ⟨fn_sound (s := era_Safe_S) (T := []) (Λ := fun _ _ _ _ => none) 0 Try.func55 (c := bodyOf Try.f55) (by kernel_rfl) (by kernel_rfl) (lkΓ_cons (g := 43) (s0 := era_Check_S) era_Check_ok lkΓ_nil) (by decide +kernel) (by decide +kernel) (fun _ _ _ => rfl) era_Safe_cuts (fun x => era_Safe_run  x), bodied_of Try.func55 (by decide +kernel) (by decide +kernel)⟩

theorem arena_Turn_ok : SigOk Try.prog 24 arena_Turn_S ∧ Bodied Try.prog 24 :=
  ⟨fn_sound (s := arena_Turn_S) (T := [(16, [1, 2, 4, 5, 22, 23])]) (Λ := arena_Turn_Λ) 2000000 Try.func24 (c := bodyOf Try.f24) (by kernel_rfl) (by kernel_rfl) (lkΓ_cons (g := 46) (s0 := arena_may_S) arena_may_ok (lkΓ_cons (g := 53) (s0 := era_Turn_S) era_Turn_ok (lkΓ_cons (g := 54) (s0 := pool_Reclaim_S) pool_Reclaim_ok (lkΓ_cons (g := 55) (s0 := era_Safe_S) era_Safe_ok lkΓ_nil)))) (by decide +kernel) (by decide +kernel) arena_Turn_Λ0 arena_Turn_cuts (fun x => arena_Turn_run 2000000 x), bodied_of Try.func24 (by decide +kernel) (by decide +kernel)⟩

theorem tendrillaw07_plain_ok : SigOk Try.prog 32 tendrillaw07_plain_S ∧ Bodied Try.prog 32 :=
  ⟨fn_sound (s := tendrillaw07_plain_S) (T := []) (Λ := fun _ _ _ _ => none) 0 Try.func32 (c := bodyOf Try.f32) (by kernel_rfl) (by kernel_rfl) lkΓ_nil (by decide +kernel) (by decide +kernel) (fun _ _ _ => rfl) tendrillaw07_plain_cuts (fun x => tendrillaw07_plain_run  x), bodied_of Try.func32 (by decide +kernel) (by decide +kernel)⟩

theorem tendrillaw07_live_ok : SigOk Try.prog 9 tendrillaw07_live_S ∧ Bodied Try.prog 9 :=
  ⟨fn_sound (s := tendrillaw07_live_S) (T := []) (Λ := fun _ _ _ _ => none) 0 Try.func9 (c := bodyOf Try.f9) (by kernel_rfl) (by kernel_rfl) (lkΓ_cons (g := 11) (s0 := arena_New_S) arena_New_ok (lkΓ_cons (g := 16) (s0 := arena_Take_S) arena_Take_ok (lkΓ_cons (g := 17) (s0 := arena_Retire_S) arena_Retire_ok (lkΓ_cons (g := 24) (s0 := arena_Turn_S) arena_Turn_ok (lkΓ_cons (g := 32) (s0 := tendrillaw07_plain_S) tendrillaw07_plain_ok lkΓ_nil))))) (by decide +kernel) (by decide +kernel) (fun _ _ _ => rfl) tendrillaw07_live_cuts (fun x => tendrillaw07_live_run  x), bodied_of Try.func9 (by decide +kernel) (by decide +kernel)⟩

theorem tendrilref05_Few_ok : SigOk Try.prog 33 tendrilref05_Few_S ∧ Bodied Try.prog 33 :=
  ⟨fn_sound (s := tendrilref05_Few_S) (T := []) (Λ := fun _ _ _ _ => none) 0 Try.func33 (c := bodyOf Try.f33) (by kernel_rfl) (by kernel_rfl) lkΓ_nil (by decide +kernel) (by decide +kernel) (fun _ _ _ => rfl) tendrilref05_Few_cuts (fun x => tendrilref05_Few_run  x), bodied_of Try.func33 (by decide +kernel) (by decide +kernel)⟩

theorem tendrilref07_Few_ok : SigOk Try.prog 10 tendrilref07_Few_S ∧ Bodied Try.prog 10 :=
  ⟨fn_sound (s := tendrilref07_Few_S) (T := [(6, [1, 6, 7])]) (Λ := tendrilref07_Few_Λ) 2000000 Try.func10 (c := bodyOf Try.f10) (by kernel_rfl) (by kernel_rfl) (lkΓ_cons (g := 33) (s0 := tendrilref05_Few_S) tendrilref05_Few_ok lkΓ_nil) (by decide +kernel) (by decide +kernel) tendrilref07_Few_Λ0 tendrilref07_Few_cuts (fun x => tendrilref07_Few_run 2000000 x), bodied_of Try.func10 (by decide +kernel) (by decide +kernel)⟩

theorem pool_Count_ok : SigOk Try.prog 25 pool_Count_S ∧ Bodied Try.prog 25 :=
  ⟨fn_sound (s := pool_Count_S) (T := [(10, [2, 3, 4, 11, 12, 13])]) (Λ := pool_Count_Λ) 2000000 Try.func25 (c := bodyOf Try.f25) (by kernel_rfl) (by kernel_rfl) (lkΓ_cons (g := 42) (s0 := pool_Check_S) pool_Check_ok lkΓ_nil) (by decide +kernel) (by decide +kernel) pool_Count_Λ0 pool_Count_cuts (fun x => pool_Count_run 2000000 x), bodied_of Try.func25 (by decide +kernel) (by decide +kernel)⟩

theorem tendrillaw07_ArenaThree_ok : SigOk Try.prog 6 tendrillaw07_ArenaThree_S ∧ Bodied Try.prog 6 :=
  ⟨fn_sound (s := tendrillaw07_ArenaThree_S) (T := [(52, [7, 85, 86]), (38, [1, 7, 73]), (22, [1, 4, 41, 42, 46, 47, 48]), (16, [1, 41, 42])]) (Λ := tendrillaw07_ArenaThree_Λ) 2000000 Try.func6 (c := bodyOf Try.f6) (by kernel_rfl) (by kernel_rfl) (lkΓ_cons (g := 9) (s0 := tendrillaw07_live_S) tendrillaw07_live_ok (lkΓ_cons (g := 10) (s0 := tendrilref07_Few_S) tendrilref07_Few_ok (lkΓ_cons (g := 14) (s0 := arena_Check_S) arena_Check_ok (lkΓ_cons (g := 24) (s0 := arena_Turn_S) arena_Turn_ok (lkΓ_cons (g := 25) (s0 := pool_Count_S) pool_Count_ok (lkΓ_flag (s0 := flagS) lkΓ_nil)))))) (by decide +kernel) (by decide +kernel) tendrillaw07_ArenaThree_Λ0 tendrillaw07_ArenaThree_cuts (fun x => tendrillaw07_ArenaThree_run 2000000 x), bodied_of Try.func6 (by decide +kernel) (by decide +kernel)⟩

end Go.Proofs.YtcoiboghdmmdcacFn
