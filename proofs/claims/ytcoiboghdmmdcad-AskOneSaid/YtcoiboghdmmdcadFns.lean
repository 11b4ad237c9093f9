/- The contracts of the functions that this seat's laws reach; no condition. -/
import Derived.Test.YtcoiboghdmmdcadProg
import Derived.KernelRfl
import Derived.Test.YtcoiboghdmmdcadPx25
import Derived.Test.YtcoiboghdmmdcadFnsD
import Derived.Test.YtcoiboghdmmdcadFnsA0
import Derived.Test.YtcoiboghdmmdcadFnsA1
import Derived.Test.YtcoiboghdmmdcadFnsA2
import Derived.Test.YtcoiboghdmmdcadFnsA3
import Derived.Test.YtcoiboghdmmdcadFnsA4
import Derived.Test.YtcoiboghdmmdcadFnsA5
import Derived.Test.YtcoiboghdmmdcadFnsA6
set_option linter.unusedVariables false
set_option linter.unusedSimpArgs false
namespace Go.Proofs.YtcoiboghdmmdcadFn
open Go Go.RowKit Go.Proofs.YtcoiboghdmmdcadPx
theorem place_Check_ok : SigOk Try.prog 34 place_Check_S ∧ Bodied Try.prog 34 :=
  ⟨fn_sound (s := place_Check_S) (T := []) (Λ := fun _ _ _ _ => none) 0 Try.func34 (c := bodyOf Try.f34) (by kernel_rfl) (by kernel_rfl) lkΓ_nil (by decide +kernel) (by decide +kernel) (fun _ _ _ => rfl) place_Check_cuts (fun x => place_Check_run  x), bodied_of Try.func34 (by decide +kernel) (by decide +kernel)⟩

theorem math_bits_Mul32_ok : SigOk Try.prog 87 math_bits_Mul32_S ∧ Bodied Try.prog 87 :=
  ⟨fn_sound (s := math_bits_Mul32_S) (T := []) (Λ := fun _ _ _ _ => none) 0 Try.func87 (c := bodyOf Try.f87) (by kernel_rfl) (by kernel_rfl) lkΓ_nil (by decide +kernel) (by decide +kernel) (fun _ _ _ => rfl) math_bits_Mul32_cuts (fun x => math_bits_Mul32_run  x), bodied_of Try.func87 (by decide +kernel) (by decide +kernel)⟩

theorem math_bits_Mul64_ok : SigOk Try.prog 88 math_bits_Mul64_S ∧ Bodied Try.prog 88 :=
  ⟨fn_sound (s := math_bits_Mul64_S) (T := []) (Λ := fun _ _ _ _ => none) 0 Try.func88 (c := bodyOf Try.f88) (by kernel_rfl) (by kernel_rfl) lkΓ_nil (by decide +kernel) (by decide +kernel) (fun _ _ _ => rfl) math_bits_Mul64_cuts (fun x => math_bits_Mul64_run  x), bodied_of Try.func88 (by decide +kernel) (by decide +kernel)⟩

theorem math_bits_Mul_ok : SigOk Try.prog 77 math_bits_Mul_S ∧ Bodied Try.prog 77 :=
  ⟨fn_sound (s := math_bits_Mul_S) (T := []) (Λ := fun _ _ _ _ => none) 0 Try.func77 (c := bodyOf Try.f77) (by kernel_rfl) (by kernel_rfl) (lkΓ_cons (g := 87) (s0 := math_bits_Mul32_S) math_bits_Mul32_ok (lkΓ_cons (g := 88) (s0 := math_bits_Mul64_S) math_bits_Mul64_ok lkΓ_nil)) (by decide +kernel) (by decide +kernel) (fun _ _ _ => rfl) math_bits_Mul_cuts (fun x => math_bits_Mul_run  x), bodied_of Try.func77 (by decide +kernel) (by decide +kernel)⟩

theorem slices_Repeat_ok : SigOk Try.prog 65 slices_Repeat_S ∧ Bodied Try.prog 65 :=
  ⟨fn_sound (s := slices_Repeat_S) (T := [(18, [7, 8])]) (Λ := slices_Repeat_Λ) 2000000 Try.func65 (c := bodyOf Try.f65) (by kernel_rfl) (by kernel_rfl) (lkΓ_cons (g := 77) (s0 := math_bits_Mul_S) math_bits_Mul_ok (lkΓ_flag (s0 := flagS) lkΓ_nil)) (by decide +kernel) (by decide +kernel) slices_Repeat_Λ0 slices_Repeat_cuts (fun x => slices_Repeat_run 2000000 x), bodied_of Try.func65 (by decide +kernel) (by decide +kernel)⟩

theorem era_New_ok : SigOk Try.prog 40 era_New_S ∧ Bodied Try.prog 40 :=
  ⟨fn_sound (s := era_New_S) (T := []) (Λ := fun _ _ _ _ => none) 0 Try.func40 (c := bodyOf Try.f40) (by kernel_rfl) (by kernel_rfl) (lkΓ_cons (g := 65) (s0 := slices_Repeat_S) slices_Repeat_ok lkΓ_nil) (by decide +kernel) (by decide +kernel) (fun _ _ _ => rfl) era_New_cuts (fun x => era_New_run  x), bodied_of Try.func40 (by decide +kernel) (by decide +kernel)⟩

theorem pool_New_ok : SigOk Try.prog 41 pool_New_S ∧ Bodied Try.prog 41 :=
  ⟨fn_sound (s := pool_New_S) (T := [(12, [2, 4, 24, 25])]) (Λ := pool_New_Λ) 2000000 Try.func41 (c := bodyOf Try.f41) (by kernel_rfl) (by kernel_rfl) lkΓ_nil (by decide +kernel) (by decide +kernel) pool_New_Λ0 pool_New_cuts (fun x => pool_New_run 2000000 x), bodied_of Try.func41 (by decide +kernel) (by decide +kernel)⟩

theorem arena_New_ok : SigOk Try.prog 22 arena_New_S ∧ Bodied Try.prog 22 :=
  ⟨fn_sound (s := arena_New_S) (T := [(20, [4, 9, 35, 36])]) (Λ := arena_New_Λ) 2000000 Try.func22 (c := bodyOf Try.f22) (by kernel_rfl) (by kernel_rfl) (lkΓ_cons (g := 34) (s0 := place_Check_S) place_Check_ok (lkΓ_cons (g := 40) (s0 := era_New_S) era_New_ok (lkΓ_cons (g := 41) (s0 := pool_New_S) pool_New_ok lkΓ_nil))) (by decide +kernel) (by decide +kernel) arena_New_Λ0 arena_New_cuts (fun x => arena_New_run 2000000 x), bodied_of Try.func22 (by decide +kernel) (by decide +kernel)⟩

theorem place_kinds_ok : SigOk Try.prog 63 place_kinds_S ∧ Bodied Try.prog 63 :=
  ⟨fn_sound (s := place_kinds_S) (T := []) (Λ := fun _ _ _ _ => none) 0 Try.func63 (c := bodyOf Try.f63) (by kernel_rfl) (by kernel_rfl) lkΓ_nil (by decide +kernel) (by decide +kernel) (fun _ _ _ => rfl) place_kinds_cuts (fun x => place_kinds_run  x), bodied_of Try.func63 (by decide +kernel) (by decide +kernel)⟩

theorem place_Size_ok : SigOk Try.prog 36 place_Size_S ∧ Bodied Try.prog 36 :=
  ⟨fn_sound (s := place_Size_S) (T := []) (Λ := fun _ _ _ _ => none) 0 Try.func36 (c := bodyOf Try.f36) (by kernel_rfl) (by kernel_rfl) (lkΓ_cons (g := 34) (s0 := place_Check_S) place_Check_ok (lkΓ_cons (g := 63) (s0 := place_kinds_S) place_kinds_ok lkΓ_nil)) (by decide +kernel) (by decide +kernel) (fun _ _ _ => rfl) place_Size_cuts (fun x => place_Size_run  x), bodied_of Try.func36 (by decide +kernel) (by decide +kernel)⟩

theorem mem_New_ok : SigOk Try.prog 42 mem_New_S ∧ Bodied Try.prog 42 :=
  ⟨fn_sound (s := mem_New_S) (T := []) (Λ := fun _ _ _ _ => none) 0 Try.func42 (c := bodyOf Try.f42) (by kernel_rfl) (by kernel_rfl) lkΓ_nil (by decide +kernel) (by decide +kernel) (fun _ _ _ => rfl) mem_New_cuts (fun x => mem_New_run  x), bodied_of Try.func42 (by decide +kernel) (by decide +kernel)⟩

theorem place_New_ok : SigOk Try.prog 23 place_New_S ∧ Bodied Try.prog 23 :=
  ⟨fn_sound (s := place_New_S) (T := []) (Λ := fun _ _ _ _ => none) 0 Try.func23 (c := bodyOf Try.f23) (by kernel_rfl) (by kernel_rfl) (lkΓ_cons (g := 34) (s0 := place_Check_S) place_Check_ok (lkΓ_cons (g := 36) (s0 := place_Size_S) place_Size_ok (lkΓ_cons (g := 42) (s0 := mem_New_S) mem_New_ok lkΓ_nil))) (by decide +kernel) (by decide +kernel) (fun _ _ _ => rfl) place_New_cuts (fun x => place_New_run  x), bodied_of Try.func23 (by decide +kernel) (by decide +kernel)⟩

theorem ask_New_ok : SigOk Try.prog 10 ask_New_S ∧ Bodied Try.prog 10 :=
  ⟨fn_sound (s := ask_New_S) (T := []) (Λ := fun _ _ _ _ => none) 0 Try.func10 (c := bodyOf Try.f10) (by kernel_rfl) (by kernel_rfl) (lkΓ_cons (g := 22) (s0 := arena_New_S) arena_New_ok (lkΓ_cons (g := 23) (s0 := place_New_S) place_New_ok lkΓ_nil)) (by decide +kernel) (by decide +kernel) (fun _ _ _ => rfl) ask_New_cuts (fun x => ask_New_run  x), bodied_of Try.func10 (by decide +kernel) (by decide +kernel)⟩

theorem ask_has_ok : SigOk Try.prog 27 ask_has_S ∧ Bodied Try.prog 27 :=
  ⟨fn_sound (s := ask_has_S) (T := []) (Λ := fun _ _ _ _ => none) 0 Try.func27 (c := bodyOf Try.f27) (by kernel_rfl) (by kernel_rfl) lkΓ_nil (by decide +kernel) (by decide +kernel) (fun _ _ _ => rfl) ask_has_cuts (fun x => ask_has_run  x), bodied_of Try.func27 (by decide +kernel) (by decide +kernel)⟩

theorem latch_Check_ok : SigOk Try.prog 39 latch_Check_S ∧ Bodied Try.prog 39 :=
  ⟨fn_sound (s := latch_Check_S) (T := []) (Λ := fun _ _ _ _ => none) 0 Try.func39 (c := bodyOf Try.f39) (by kernel_rfl) (by kernel_rfl) lkΓ_nil (by decide +kernel) (by decide +kernel) (fun _ _ _ => rfl) latch_Check_cuts (fun x => latch_Check_run  x), bodied_of Try.func39 (by decide +kernel) (by decide +kernel)⟩

theorem latch_Held_ok : SigOk Try.prog 28 latch_Held_S ∧ Bodied Try.prog 28 :=
  ⟨fn_sound (s := latch_Held_S) (T := []) (Λ := fun _ _ _ _ => none) 0 Try.func28 (c := bodyOf Try.f28) (by kernel_rfl) (by kernel_rfl) (lkΓ_cons (g := 39) (s0 := latch_Check_S) latch_Check_ok lkΓ_nil) (by decide +kernel) (by decide +kernel) (fun _ _ _ => rfl) latch_Held_cuts (fun x => latch_Held_run  x), bodied_of Try.func28 (by decide +kernel) (by decide +kernel)⟩

theorem ask_Waits_ok : SigOk Try.prog 13 ask_Waits_S ∧ Bodied Try.prog 13 :=
  ⟨fn_sound (s := ask_Waits_S) (T := []) (Λ := fun _ _ _ _ => none) 0 Try.func13 (c := bodyOf Try.f13) (by kernel_rfl) (by kernel_rfl) (lkΓ_cons (g := 27) (s0 := ask_has_S) ask_has_ok (lkΓ_cons (g := 28) (s0 := latch_Held_S) latch_Held_ok lkΓ_nil)) (by decide +kernel) (by decide +kernel) (fun _ _ _ => rfl) ask_Waits_cuts (fun x => ask_Waits_run  x), bodied_of Try.func13 (by decide +kernel) (by decide +kernel)⟩

theorem slices_Index_ok : SigOk Try.prog 86 slices_Index_S ∧ Bodied Try.prog 86 :=
  ⟨fn_sound (s := slices_Index_S) (T := [(6, [0, 1, 7, 8])]) (Λ := slices_Index_Λ) 2000000 Try.func86 (c := bodyOf Try.f86) (by kernel_rfl) (by kernel_rfl) lkΓ_nil (by decide +kernel) (by decide +kernel) slices_Index_Λ0 slices_Index_cuts (fun x => slices_Index_run 2000000 x), bodied_of Try.func86 (by decide +kernel) (by decide +kernel)⟩

theorem slices_Contains_ok : SigOk Try.prog 75 slices_Contains_S ∧ Bodied Try.prog 75 :=
  ⟨fn_sound (s := slices_Contains_S) (T := []) (Λ := fun _ _ _ _ => none) 0 Try.func75 (c := bodyOf Try.f75) (by kernel_rfl) (by kernel_rfl) (lkΓ_cons (g := 86) (s0 := slices_Index_S) slices_Index_ok lkΓ_nil) (by decide +kernel) (by decide +kernel) (fun _ _ _ => rfl) slices_Contains_cuts (fun x => slices_Contains_run  x), bodied_of Try.func75 (by decide +kernel) (by decide +kernel)⟩

theorem pool_Check_ok : SigOk Try.prog 61 pool_Check_S ∧ Bodied Try.prog 61 :=
  ⟨fn_sound (s := pool_Check_S) (T := [(28, [3, 4, 83, 84, 85]), (14, [1, 3, 4, 35, 36, 37])]) (Λ := pool_Check_Λ) 2000000 Try.func61 (c := bodyOf Try.f61) (by kernel_rfl) (by kernel_rfl) (lkΓ_cons (g := 75) (s0 := slices_Contains_S) slices_Contains_ok lkΓ_nil) (by decide +kernel) (by decide +kernel) pool_Check_Λ0 pool_Check_cuts (fun x => pool_Check_run 2000000 x), bodied_of Try.func61 (by decide +kernel) (by decide +kernel)⟩

theorem era_Check_1_ok : SigOk Try.prog 76 era_Check_1_S ∧ Bodied Try.prog 76 :=
  ⟨fn_sound (s := era_Check_1_S) (T := []) (Λ := fun _ _ _ _ => none) 0 Try.func76 (c := bodyOf Try.f76) (by kernel_rfl) (by kernel_rfl) lkΓ_nil (by decide +kernel) (by decide +kernel) (fun _ _ _ => rfl) era_Check_1_cuts (fun x => era_Check_1_run  x), bodied_of Try.func76 (by decide +kernel) (by decide +kernel)⟩

theorem slices_IndexFunc_era_Check_1_ok : SigOk Try.prog 64 slices_IndexFunc_era_Check_1_S ∧ Bodied Try.prog 64 :=
  ⟨fn_sound (s := slices_IndexFunc_era_Check_1_S) (T := [(6, [0, 1, 7, 8])]) (Λ := slices_IndexFunc_era_Check_1_Λ) 2000000 Try.func64 (c := bodyOf Try.f64) (by kernel_rfl) (by kernel_rfl) (lkΓ_cons (g := 76) (s0 := era_Check_1_S) era_Check_1_ok lkΓ_nil) (by decide +kernel) (by decide +kernel) slices_IndexFunc_era_Check_1_Λ0 slices_IndexFunc_era_Check_1_cuts (fun x => slices_IndexFunc_era_Check_1_run 2000000 x), bodied_of Try.func64 (by decide +kernel) (by decide +kernel)⟩

theorem slices_ContainsFunc_era_Check_1_ok : SigOk Try.prog 37 slices_ContainsFunc_era_Check_1_S ∧ Bodied Try.prog 37 :=
  ⟨fn_sound (s := slices_ContainsFunc_era_Check_1_S) (T := []) (Λ := fun _ _ _ _ => none) 0 Try.func37 (c := bodyOf Try.f37) (by kernel_rfl) (by kernel_rfl) (lkΓ_cons (g := 77000064) (s0 := slices_IndexFunc_era_Check_1_S) slices_IndexFunc_era_Check_1_ok lkΓ_nil) (by decide +kernel) (by decide +kernel) (fun _ _ _ => rfl) slices_ContainsFunc_era_Check_1_cuts (fun x => slices_ContainsFunc_era_Check_1_run  x), bodied_of Try.func37 (by decide +kernel) (by decide +kernel)⟩

theorem era_Check_ok : SigOk Try.prog 62 era_Check_S ∧ Bodied Try.prog 62 :=
  ⟨fn_sound (s := era_Check_S) (T := []) (Λ := fun _ _ _ _ => none) 0 Try.func62 (c := bodyOf Try.f62) (by kernel_rfl) (by kernel_rfl) (lkΓ_cons (g := 77000037) (s0 := slices_ContainsFunc_era_Check_1_S) slices_ContainsFunc_era_Check_1_ok lkΓ_nil) (by decide +kernel) (by decide +kernel) (fun _ _ _ => rfl) era_Check_cuts (fun x => era_Check_run  x), bodied_of Try.func62 (by decide +kernel) (by decide +kernel)⟩

theorem arena_Check_ok : SigOk Try.prog 35 arena_Check_S ∧ Bodied Try.prog 35 :=
  ⟨fn_sound (s := arena_Check_S) (T := [(6, [1, 7, 8])]) (Λ := arena_Check_Λ) 2000000 Try.func35 (c := bodyOf Try.f35) (by kernel_rfl) (by kernel_rfl) (lkΓ_cons (g := 61) (s0 := pool_Check_S) pool_Check_ok (lkΓ_cons (g := 62) (s0 := era_Check_S) era_Check_ok lkΓ_nil)) (by decide +kernel) (by decide +kernel) arena_Check_Λ0 arena_Check_cuts (fun x => arena_Check_run 2000000 x), bodied_of Try.func35 (by decide +kernel) (by decide +kernel)⟩

theorem shape_Check_1_ok : SigOk Try.prog 38 shape_Check_1_S ∧ Bodied Try.prog 38 :=
  ⟨fn_sound (s := shape_Check_1_S) (T := []) (Λ := fun _ _ _ _ => none) 0 Try.func38 (c := bodyOf Try.f38) (by kernel_rfl) (by kernel_rfl) (lkΓ_cons (g := 39) (s0 := latch_Check_S) latch_Check_ok lkΓ_nil) (by decide +kernel) (by decide +kernel) (fun _ _ _ => rfl) shape_Check_1_cuts (fun x => shape_Check_1_run  x), bodied_of Try.func38 (by decide +kernel) (by decide +kernel)⟩

theorem slices_IndexFunc_shape_Check_1_ok : SigOk Try.prog 64 slices_IndexFunc_shape_Check_1_S ∧ Bodied Try.prog 64 :=
  ⟨fn_sound (s := slices_IndexFunc_shape_Check_1_S) (T := [(6, [0, 1, 7, 8])]) (Λ := slices_IndexFunc_shape_Check_1_Λ) 2000000 Try.func64 (c := bodyOf Try.f64) (by kernel_rfl) (by kernel_rfl) (lkΓ_cons (g := 38) (s0 := shape_Check_1_S) shape_Check_1_ok lkΓ_nil) (by decide +kernel) (by decide +kernel) slices_IndexFunc_shape_Check_1_Λ0 slices_IndexFunc_shape_Check_1_cuts (fun x => slices_IndexFunc_shape_Check_1_run 2000000 x), bodied_of Try.func64 (by decide +kernel) (by decide +kernel)⟩

theorem slices_ContainsFunc_shape_Check_1_ok : SigOk Try.prog 37 slices_ContainsFunc_shape_Check_1_S ∧ Bodied Try.prog 37 :=
  ⟨fn_sound (s := slices_ContainsFunc_shape_Check_1_S) (T := []) (Λ := fun _ _ _ _ => none) 0 Try.func37 (c := bodyOf Try.f37) (by kernel_rfl) (by kernel_rfl) (lkΓ_cons (g := 39000064) (s0 := slices_IndexFunc_shape_Check_1_S) slices_IndexFunc_shape_Check_1_ok lkΓ_nil) (by decide +kernel) (by decide +kernel) (fun _ _ _ => rfl) slices_ContainsFunc_shape_Check_1_cuts (fun x => slices_ContainsFunc_shape_Check_1_run  x), bodied_of Try.func37 (by decide +kernel) (by decide +kernel)⟩

theorem shape_Check_ok : SigOk Try.prog 18 shape_Check_S ∧ Bodied Try.prog 18 :=
  ⟨fn_sound (s := shape_Check_S) (T := [(10, [3, 38, 39])]) (Λ := shape_Check_Λ) 2000000 Try.func18 (c := bodyOf Try.f18) (by kernel_rfl) (by kernel_rfl) (lkΓ_cons (g := 34) (s0 := place_Check_S) place_Check_ok (lkΓ_cons (g := 35) (s0 := arena_Check_S) arena_Check_ok (lkΓ_cons (g := 36) (s0 := place_Size_S) place_Size_ok (lkΓ_cons (g := 39000037) (s0 := slices_ContainsFunc_shape_Check_1_S) slices_ContainsFunc_shape_Check_1_ok lkΓ_nil)))) (by decide +kernel) (by decide +kernel) shape_Check_Λ0 shape_Check_cuts (fun x => shape_Check_run 2000000 x), bodied_of Try.func18 (by decide +kernel) (by decide +kernel)⟩

theorem mem_in_ok : SigOk Try.prog 67 mem_in_S ∧ Bodied Try.prog 67 :=
  ⟨fn_sound (s := mem_in_S) (T := []) (Λ := fun _ _ _ _ => none) 0 Try.func67 (c := bodyOf Try.f67) (by kernel_rfl) (by kernel_rfl) lkΓ_nil (by decide +kernel) (by decide +kernel) (fun _ _ _ => rfl) mem_in_cuts (fun x => mem_in_run  x), bodied_of Try.func67 (by decide +kernel) (by decide +kernel)⟩

theorem mem_Load_ok : SigOk Try.prog 50 mem_Load_S ∧ Bodied Try.prog 50 :=
  ⟨fn_sound (s := mem_Load_S) (T := []) (Λ := fun _ _ _ _ => none) 0 Try.func50 (c := bodyOf Try.f50) (by kernel_rfl) (by kernel_rfl) (lkΓ_cons (g := 67) (s0 := mem_in_S) mem_in_ok lkΓ_nil) (by decide +kernel) (by decide +kernel) (fun _ _ _ => rfl) mem_Load_cuts (fun x => mem_Load_run  x), bodied_of Try.func50 (by decide +kernel) (by decide +kernel)⟩

theorem tag_Unpack_ok : SigOk Try.prog 19 tag_Unpack_S ∧ Bodied Try.prog 19 :=
  ⟨fn_sound (s := tag_Unpack_S) (T := []) (Λ := fun _ _ _ _ => none) 0 Try.func19 (c := bodyOf Try.f19) (by kernel_rfl) (by kernel_rfl) lkΓ_nil (by decide +kernel) (by decide +kernel) (fun _ _ _ => rfl) tag_Unpack_cuts (fun x => tag_Unpack_run  x), bodied_of Try.func19 (by decide +kernel) (by decide +kernel)⟩

theorem place_Field_ok : SigOk Try.prog 78 place_Field_S ∧ Bodied Try.prog 78 :=
  ⟨fn_sound (s := place_Field_S) (T := []) (Λ := fun _ _ _ _ => none) 0 Try.func78 (c := bodyOf Try.f78) (by kernel_rfl) (by kernel_rfl) (lkΓ_cons (g := 34) (s0 := place_Check_S) place_Check_ok (lkΓ_cons (g := 63) (s0 := place_kinds_S) place_kinds_ok lkΓ_nil)) (by decide +kernel) (by decide +kernel) (fun _ _ _ => rfl) place_Field_cuts (fun x => place_Field_run  x), bodied_of Try.func78 (by decide +kernel) (by decide +kernel)⟩

theorem chain_where_ok : SigOk Try.prog 66 chain_where_S ∧ Bodied Try.prog 66 :=
  ⟨fn_sound (s := chain_where_S) (T := []) (Λ := fun _ _ _ _ => none) 0 Try.func66 (c := bodyOf Try.f66) (by kernel_rfl) (by kernel_rfl) (lkΓ_cons (g := 19) (s0 := tag_Unpack_S) tag_Unpack_ok (lkΓ_cons (g := 36) (s0 := place_Size_S) place_Size_ok (lkΓ_cons (g := 78) (s0 := place_Field_S) place_Field_ok lkΓ_nil))) (by decide +kernel) (by decide +kernel) (fun _ _ _ => rfl) chain_where_cuts (fun x => chain_where_run  x), bodied_of Try.func66 (by decide +kernel) (by decide +kernel)⟩

theorem chain_Field_ok : SigOk Try.prog 49 chain_Field_S ∧ Bodied Try.prog 49 :=
  ⟨fn_sound (s := chain_Field_S) (T := []) (Λ := fun _ _ _ _ => none) 0 Try.func49 (c := bodyOf Try.f49) (by kernel_rfl) (by kernel_rfl) (lkΓ_cons (g := 50) (s0 := mem_Load_S) mem_Load_ok (lkΓ_cons (g := 66) (s0 := chain_where_S) chain_where_ok lkΓ_nil)) (by decide +kernel) (by decide +kernel) (fun _ _ _ => rfl) chain_Field_cuts (fun x => chain_Field_run  x), bodied_of Try.func49 (by decide +kernel) (by decide +kernel)⟩

theorem mem_Store_ok : SigOk Try.prog 52 mem_Store_S ∧ Bodied Try.prog 52 :=
  ⟨fn_sound (s := mem_Store_S) (T := []) (Λ := fun _ _ _ _ => none) 0 Try.func52 (c := bodyOf Try.f52) (by kernel_rfl) (by kernel_rfl) (lkΓ_cons (g := 67) (s0 := mem_in_S) mem_in_ok (lkΓ_cons (g := 68) (s0 := slices_Clone_S) slices_Clone_ok lkΓ_nil)) (by decide +kernel) (by decide +kernel) (fun _ _ _ => rfl) mem_Store_cuts (fun x => mem_Store_run  x), bodied_of Try.func52 (by decide +kernel) (by decide +kernel)⟩

theorem chain_Put_ok : SigOk Try.prog 51 chain_Put_S ∧ Bodied Try.prog 51 :=
  ⟨fn_sound (s := chain_Put_S) (T := []) (Λ := fun _ _ _ _ => none) 0 Try.func51 (c := bodyOf Try.f51) (by kernel_rfl) (by kernel_rfl) (lkΓ_cons (g := 52) (s0 := mem_Store_S) mem_Store_ok (lkΓ_cons (g := 66) (s0 := chain_where_S) chain_where_ok lkΓ_nil)) (by decide +kernel) (by decide +kernel) (fun _ _ _ => rfl) chain_Put_cuts (fun x => chain_Put_run  x), bodied_of Try.func51 (by decide +kernel) (by decide +kernel)⟩

theorem ask_words_ok : SigOk Try.prog 30 ask_words_S ∧ Bodied Try.prog 30 :=
  ⟨fn_sound (s := ask_words_S) (T := []) (Λ := fun _ _ _ _ => none) 0 Try.func30 (c := bodyOf Try.f30) (by kernel_rfl) (by kernel_rfl) (lkΓ_cons (g := 49) (s0 := chain_Field_S) chain_Field_ok (lkΓ_cons (g := 50) (s0 := mem_Load_S) mem_Load_ok (lkΓ_cons (g := 51) (s0 := chain_Put_S) chain_Put_ok (lkΓ_cons (g := 52) (s0 := mem_Store_S) mem_Store_ok lkΓ_nil)))) (by decide +kernel) (by decide +kernel) (fun _ _ _ => rfl) ask_words_cuts (fun x => ask_words_run  x), bodied_of Try.func30 (by decide +kernel) (by decide +kernel)⟩

theorem arena_may_ok : SigOk Try.prog 69 arena_may_S ∧ Bodied Try.prog 69 :=
  ⟨fn_sound (s := arena_may_S) (T := []) (Λ := fun _ _ _ _ => none) 0 Try.func69 (c := bodyOf Try.f69) (by kernel_rfl) (by kernel_rfl) (lkΓ_cons (g := 35) (s0 := arena_Check_S) arena_Check_ok lkΓ_nil) (by decide +kernel) (by decide +kernel) (fun _ _ _ => rfl) arena_may_cuts (fun x => arena_may_run  x), bodied_of Try.func69 (by decide +kernel) (by decide +kernel)⟩

theorem arena_Gen_ok : SigOk Try.prog 53 arena_Gen_S ∧ Bodied Try.prog 53 :=
  ⟨fn_sound (s := arena_Gen_S) (T := []) (Λ := fun _ _ _ _ => none) 0 Try.func53 (c := bodyOf Try.f53) (by kernel_rfl) (by kernel_rfl) (lkΓ_cons (g := 19) (s0 := tag_Unpack_S) tag_Unpack_ok (lkΓ_cons (g := 69) (s0 := arena_may_S) arena_may_ok lkΓ_nil)) (by decide +kernel) (by decide +kernel) (fun _ _ _ => rfl) arena_Gen_cuts (fun x => arena_Gen_run  x), bodied_of Try.func53 (by decide +kernel) (by decide +kernel)⟩

theorem ask_touch_ok : SigOk Try.prog 31 ask_touch_S ∧ Bodied Try.prog 31 :=
  ⟨fn_sound (s := ask_touch_S) (T := []) (Λ := fun _ _ _ _ => none) 0 Try.func31 (c := bodyOf Try.f31) (by kernel_rfl) (by kernel_rfl) (lkΓ_cons (g := 19) (s0 := tag_Unpack_S) tag_Unpack_ok (lkΓ_cons (g := 53) (s0 := arena_Gen_S) arena_Gen_ok lkΓ_nil)) (by decide +kernel) (by decide +kernel) (fun _ _ _ => rfl) ask_touch_cuts (fun x => ask_touch_run  x), bodied_of Try.func31 (by decide +kernel) (by decide +kernel)⟩

theorem latch_Try_ok : SigOk Try.prog 54 latch_Try_S ∧ Bodied Try.prog 54 :=
  ⟨fn_sound (s := latch_Try_S) (T := []) (Λ := fun _ _ _ _ => none) 0 Try.func54 (c := bodyOf Try.f54) (by kernel_rfl) (by kernel_rfl) (lkΓ_cons (g := 28) (s0 := latch_Held_S) latch_Held_ok (lkΓ_cons (g := 39) (s0 := latch_Check_S) latch_Check_ok lkΓ_nil)) (by decide +kernel) (by decide +kernel) (fun _ _ _ => rfl) latch_Try_cuts (fun x => latch_Try_run  x), bodied_of Try.func54 (by decide +kernel) (by decide +kernel)⟩

theorem ask_with_ok : SigOk Try.prog 55 ask_with_S ∧ Bodied Try.prog 55 :=
  ⟨fn_sound (s := ask_with_S) (T := []) (Λ := fun _ _ _ _ => none) 0 Try.func55 (c := bodyOf Try.f55) (by kernel_rfl) (by kernel_rfl) (lkΓ_cons (g := 68) (s0 := slices_Clone_S) slices_Clone_ok lkΓ_nil) (by decide +kernel) (by decide +kernel) (fun _ _ _ => rfl) ask_with_cuts (fun x => ask_with_run  x), bodied_of Try.func55 (by decide +kernel) (by decide +kernel)⟩

theorem latch_Free_ok : SigOk Try.prog 56 latch_Free_S ∧ Bodied Try.prog 56 :=
  ⟨fn_sound (s := latch_Free_S) (T := []) (Λ := fun _ _ _ _ => none) 0 Try.func56 (c := bodyOf Try.f56) (by kernel_rfl) (by kernel_rfl) (lkΓ_cons (g := 28) (s0 := latch_Held_S) latch_Held_ok (lkΓ_cons (g := 39) (s0 := latch_Check_S) latch_Check_ok lkΓ_nil)) (by decide +kernel) (by decide +kernel) (fun _ _ _ => rfl) latch_Free_cuts (fun x => latch_Free_run  x), bodied_of Try.func56 (by decide +kernel) (by decide +kernel)⟩

theorem ask_latches_ok : SigOk Try.prog 32 ask_latches_S ∧ Bodied Try.prog 32 :=
  ⟨fn_sound (s := ask_latches_S) (T := []) (Λ := fun _ _ _ _ => none) 0 Try.func32 (c := bodyOf Try.f32) (by kernel_rfl) (by kernel_rfl) (lkΓ_cons (g := 27) (s0 := ask_has_S) ask_has_ok (lkΓ_cons (g := 54) (s0 := latch_Try_S) latch_Try_ok (lkΓ_cons (g := 55) (s0 := ask_with_S) ask_with_ok (lkΓ_cons (g := 56) (s0 := latch_Free_S) latch_Free_ok lkΓ_nil)))) (by decide +kernel) (by decide +kernel) (fun _ _ _ => rfl) ask_latches_cuts (fun x => ask_latches_run  x), bodied_of Try.func32 (by decide +kernel) (by decide +kernel)⟩

theorem era_pinned_ok : SigOk Try.prog 79 era_pinned_S ∧ Bodied Try.prog 79 :=
  ⟨fn_sound (s := era_pinned_S) (T := []) (Λ := fun _ _ _ _ => none) 0 Try.func79 (c := bodyOf Try.f79) (by kernel_rfl) (by kernel_rfl) (lkΓ_cons (g := 62) (s0 := era_Check_S) era_Check_ok lkΓ_nil) (by decide +kernel) (by decide +kernel) (fun _ _ _ => rfl) era_pinned_cuts (fun x => era_pinned_run  x), bodied_of Try.func79 (by decide +kernel) (by decide +kernel)⟩

theorem era_with_ok : SigOk Try.prog 80 era_with_S ∧ Bodied Try.prog 80 :=
  ⟨fn_sound (s := era_with_S) (T := []) (Λ := fun _ _ _ _ => none) 0 Try.func80 (c := bodyOf Try.f80) (by kernel_rfl) (by kernel_rfl) (lkΓ_cons (g := 68) (s0 := slices_Clone_S) slices_Clone_ok lkΓ_nil) (by decide +kernel) (by decide +kernel) (fun _ _ _ => rfl) era_with_cuts (fun x => era_with_run  x), bodied_of Try.func80 (by decide +kernel) (by decide +kernel)⟩

theorem era_Pin_ok : SigOk Try.prog 70 era_Pin_S ∧ Bodied Try.prog 70 :=
  ⟨fn_sound (s := era_Pin_S) (T := []) (Λ := fun _ _ _ _ => none) 0 Try.func70 (c := bodyOf Try.f70) (by kernel_rfl) (by kernel_rfl) (lkΓ_cons (g := 79) (s0 := era_pinned_S) era_pinned_ok (lkΓ_cons (g := 80) (s0 := era_with_S) era_with_ok lkΓ_nil)) (by decide +kernel) (by decide +kernel) (fun _ _ _ => rfl) era_Pin_cuts (fun x => era_Pin_run  x), bodied_of Try.func70 (by decide +kernel) (by decide +kernel)⟩

theorem arena_Pin_ok : SigOk Try.prog 57 arena_Pin_S ∧ Bodied Try.prog 57 :=
  ⟨fn_sound (s := arena_Pin_S) (T := []) (Λ := fun _ _ _ _ => none) 0 Try.func57 (c := bodyOf Try.f57) (by kernel_rfl) (by kernel_rfl) (lkΓ_cons (g := 69) (s0 := arena_may_S) arena_may_ok (lkΓ_cons (g := 70) (s0 := era_Pin_S) era_Pin_ok lkΓ_nil)) (by decide +kernel) (by decide +kernel) (fun _ _ _ => rfl) arena_Pin_cuts (fun x => arena_Pin_run  x), bodied_of Try.func57 (by decide +kernel) (by decide +kernel)⟩

theorem era_Unpin_ok : SigOk Try.prog 71 era_Unpin_S ∧ Bodied Try.prog 71 :=
  ⟨fn_sound (s := era_Unpin_S) (T := []) (Λ := fun _ _ _ _ => none) 0 Try.func71 (c := bodyOf Try.f71) (by kernel_rfl) (by kernel_rfl) (lkΓ_cons (g := 79) (s0 := era_pinned_S) era_pinned_ok (lkΓ_cons (g := 80) (s0 := era_with_S) era_with_ok lkΓ_nil)) (by decide +kernel) (by decide +kernel) (fun _ _ _ => rfl) era_Unpin_cuts (fun x => era_Unpin_run  x), bodied_of Try.func71 (by decide +kernel) (by decide +kernel)⟩

theorem era_Turn_1_ok : SigOk Try.prog 89 era_Turn_1_S ∧ Bodied Try.prog 89 :=
  ⟨fn_sound (s := era_Turn_1_S) (T := []) (Λ := fun _ _ _ _ => none) 0 Try.func89 (c := bodyOf Try.f89) (by kernel_rfl) (by kernel_rfl) lkΓ_nil (by decide +kernel) (by decide +kernel) (fun _ _ _ => rfl) era_Turn_1_cuts (fun x => era_Turn_1_run  x), bodied_of Try.func89 (by decide +kernel) (by decide +kernel)⟩

theorem slices_IndexFunc_era_Turn_1_ok : SigOk Try.prog 64 slices_IndexFunc_era_Turn_1_S ∧ Bodied Try.prog 64 :=
  ⟨fn_sound (s := slices_IndexFunc_era_Turn_1_S) (T := [(6, [0, 1, 7, 8])]) (Λ := slices_IndexFunc_era_Turn_1_Λ) 2000000 Try.func64 (c := bodyOf Try.f64) (by kernel_rfl) (by kernel_rfl) (lkΓ_cons (g := 89) (s0 := era_Turn_1_S) era_Turn_1_ok lkΓ_nil) (by decide +kernel) (by decide +kernel) slices_IndexFunc_era_Turn_1_Λ0 slices_IndexFunc_era_Turn_1_cuts (fun x => slices_IndexFunc_era_Turn_1_run 2000000 x), bodied_of Try.func64 (by decide +kernel) (by decide +kernel)⟩

theorem slices_ContainsFunc_era_Turn_1_ok : SigOk Try.prog 37 slices_ContainsFunc_era_Turn_1_S ∧ Bodied Try.prog 37 :=
  ⟨fn_sound (s := slices_ContainsFunc_era_Turn_1_S) (T := []) (Λ := fun _ _ _ _ => none) 0 Try.func37 (c := bodyOf Try.f37) (by kernel_rfl) (by kernel_rfl) (lkΓ_cons (g := 90000064) (s0 := slices_IndexFunc_era_Turn_1_S) slices_IndexFunc_era_Turn_1_ok lkΓ_nil) (by decide +kernel) (by decide +kernel) (fun _ _ _ => rfl) slices_ContainsFunc_era_Turn_1_cuts (fun x => slices_ContainsFunc_era_Turn_1_run  x), bodied_of Try.func37 (by decide +kernel) (by decide +kernel)⟩

theorem era_Turn_ok : SigOk Try.prog 81 era_Turn_S ∧ Bodied Try.prog 81 :=
  ⟨fn_sound (s := era_Turn_S) (T := []) (Λ := fun _ _ _ _ => none) 0 Try.func81 (c := bodyOf Try.f81) (by kernel_rfl) (by kernel_rfl) (lkΓ_cons (g := 62) (s0 := era_Check_S) era_Check_ok (lkΓ_cons (g := 68) (s0 := slices_Clone_S) slices_Clone_ok (lkΓ_cons (g := 90000037) (s0 := slices_ContainsFunc_era_Turn_1_S) slices_ContainsFunc_era_Turn_1_ok lkΓ_nil))) (by decide +kernel) (by decide +kernel) (fun _ _ _ => rfl) era_Turn_cuts (fun x => era_Turn_run  x), bodied_of Try.func81 (by decide +kernel) (by decide +kernel)⟩

theorem pool_own_ok : SigOk Try.prog 84 pool_own_S ∧ Bodied Try.prog 84 :=
  ⟨fn_sound (s := pool_own_S) (T := []) (Λ := fun _ _ _ _ => none) 0 Try.func84 (c := bodyOf Try.f84) (by kernel_rfl) (by kernel_rfl) (lkΓ_cons (g := 68) (s0 := slices_Clone_S) slices_Clone_ok lkΓ_nil) (by decide +kernel) (by decide +kernel) (fun _ _ _ => rfl) pool_own_cuts (fun x => pool_own_run  x), bodied_of Try.func84 (by decide +kernel) (by decide +kernel)⟩

theorem pool_Reclaim_ok : SigOk Try.prog 82 pool_Reclaim_S ∧ Bodied Try.prog 82 :=
  ⟨fn_sound (s := pool_Reclaim_S) (T := [(14, [1, 2, 4, 6, 19, 20, 21])]) (Λ := pool_Reclaim_Λ) 2000000 Try.func82 (c := bodyOf Try.f82) (by kernel_rfl) (by kernel_rfl) (lkΓ_cons (g := 61) (s0 := pool_Check_S) pool_Check_ok (lkΓ_cons (g := 84) (s0 := pool_own_S) pool_own_ok lkΓ_nil)) (by decide +kernel) (by decide +kernel) pool_Reclaim_Λ0 pool_Reclaim_cuts (fun x => pool_Reclaim_run 2000000 x), bodied_of Try.func82 (by decide +kernel) (by decide +kernel)⟩

theorem era_Safe_ok : SigOk Try.prog 83 era_Safe_S ∧ Bodied Try.prog 83 :=
  ⟨fn_sound (s := era_Safe_S) (T := []) (Λ := fun _ _ _ _ => none) 0 Try.func83 (c := bodyOf Try.f83) (by kernel_rfl) (by kernel_rfl) (lkΓ_cons (g := 62) (s0 := era_Check_S) era_Check_ok lkΓ_nil) (by decide +kernel) (by decide +kernel) (fun _ _ _ => rfl) era_Safe_cuts (fun x => era_Safe_run  x), bodied_of Try.func83 (by decide +kernel) (by decide +kernel)⟩

theorem arena_Turn_ok : SigOk Try.prog 72 arena_Turn_S ∧ Bodied Try.prog 72 :=
  ⟨fn_sound (s := arena_Turn_S) (T := [(16, [1, 2, 4, 5, 22, 23])]) (Λ := arena_Turn_Λ) 2000000 Try.func72 (c := bodyOf Try.f72) (by kernel_rfl) (by kernel_rfl) (lkΓ_cons (g := 69) (s0 := arena_may_S) arena_may_ok (lkΓ_cons (g := 81) (s0 := era_Turn_S) era_Turn_ok (lkΓ_cons (g := 82) (s0 := pool_Reclaim_S) pool_Reclaim_ok (lkΓ_cons (g := 83) (s0 := era_Safe_S) era_Safe_ok lkΓ_nil)))) (by decide +kernel) (by decide +kernel) arena_Turn_Λ0 arena_Turn_cuts (fun x => arena_Turn_run 2000000 x), bodied_of Try.func72 (by decide +kernel) (by decide +kernel)⟩

theorem arena_End_ok : SigOk Try.prog 58 arena_End_S ∧ Bodied Try.prog 58 :=
  ⟨fn_sound (s := arena_End_S) (T := []) (Λ := fun _ _ _ _ => none) 0 Try.func58 (c := bodyOf Try.f58) (by kernel_rfl) (by kernel_rfl) (lkΓ_cons (g := 69) (s0 := arena_may_S) arena_may_ok (lkΓ_cons (g := 71) (s0 := era_Unpin_S) era_Unpin_ok (lkΓ_cons (g := 72) (s0 := arena_Turn_S) arena_Turn_ok lkΓ_nil))) (by decide +kernel) (by decide +kernel) (fun _ _ _ => rfl) arena_End_cuts (fun x => arena_End_run  x), bodied_of Try.func58 (by decide +kernel) (by decide +kernel)⟩

theorem pool_Retire_ok : SigOk Try.prog 73 pool_Retire_S ∧ Bodied Try.prog 73 :=
  ⟨fn_sound (s := pool_Retire_S) (T := []) (Λ := fun _ _ _ _ => none) 0 Try.func73 (c := bodyOf Try.f73) (by kernel_rfl) (by kernel_rfl) (lkΓ_cons (g := 19) (s0 := tag_Unpack_S) tag_Unpack_ok (lkΓ_cons (g := 61) (s0 := pool_Check_S) pool_Check_ok (lkΓ_cons (g := 84) (s0 := pool_own_S) pool_own_ok lkΓ_nil))) (by decide +kernel) (by decide +kernel) (fun _ _ _ => rfl) pool_Retire_cuts (fun x => pool_Retire_run  x), bodied_of Try.func73 (by decide +kernel) (by decide +kernel)⟩

theorem arena_Retire_ok : SigOk Try.prog 59 arena_Retire_S ∧ Bodied Try.prog 59 :=
  ⟨fn_sound (s := arena_Retire_S) (T := []) (Λ := fun _ _ _ _ => none) 0 Try.func59 (c := bodyOf Try.f59) (by kernel_rfl) (by kernel_rfl) (lkΓ_cons (g := 69) (s0 := arena_may_S) arena_may_ok (lkΓ_cons (g := 73) (s0 := pool_Retire_S) pool_Retire_ok lkΓ_nil)) (by decide +kernel) (by decide +kernel) (fun _ _ _ => rfl) arena_Retire_cuts (fun x => arena_Retire_run  x), bodied_of Try.func59 (by decide +kernel) (by decide +kernel)⟩

theorem tag_Pack_ok : SigOk Try.prog 85 tag_Pack_S ∧ Bodied Try.prog 85 :=
  ⟨fn_sound (s := tag_Pack_S) (T := []) (Λ := fun _ _ _ _ => none) 0 Try.func85 (c := bodyOf Try.f85) (by kernel_rfl) (by kernel_rfl) lkΓ_nil (by decide +kernel) (by decide +kernel) (fun _ _ _ => rfl) tag_Pack_cuts (fun x => tag_Pack_run  x), bodied_of Try.func85 (by decide +kernel) (by decide +kernel)⟩

theorem pool_Take_ok : SigOk Try.prog 74 pool_Take_S ∧ Bodied Try.prog 74 :=
  ⟨fn_sound (s := pool_Take_S) (T := []) (Λ := fun _ _ _ _ => none) 0 Try.func74 (c := bodyOf Try.f74) (by kernel_rfl) (by kernel_rfl) (lkΓ_cons (g := 61) (s0 := pool_Check_S) pool_Check_ok (lkΓ_cons (g := 84) (s0 := pool_own_S) pool_own_ok (lkΓ_cons (g := 85) (s0 := tag_Pack_S) tag_Pack_ok lkΓ_nil))) (by decide +kernel) (by decide +kernel) (fun _ _ _ => rfl) pool_Take_cuts (fun x => pool_Take_run  x), bodied_of Try.func74 (by decide +kernel) (by decide +kernel)⟩

theorem arena_Take_ok : SigOk Try.prog 60 arena_Take_S ∧ Bodied Try.prog 60 :=
  ⟨fn_sound (s := arena_Take_S) (T := []) (Λ := fun _ _ _ _ => none) 0 Try.func60 (c := bodyOf Try.f60) (by kernel_rfl) (by kernel_rfl) (lkΓ_cons (g := 69) (s0 := arena_may_S) arena_may_ok (lkΓ_cons (g := 74) (s0 := pool_Take_S) pool_Take_ok lkΓ_nil)) (by decide +kernel) (by decide +kernel) (fun _ _ _ => rfl) arena_Take_cuts (fun x => arena_Take_run  x), bodied_of Try.func60 (by decide +kernel) (by decide +kernel)⟩

theorem ask_records_ok : SigOk Try.prog 33 ask_records_S ∧ Bodied Try.prog 33 :=
  ⟨fn_sound (s := ask_records_S) (T := []) (Λ := fun _ _ _ _ => none) 0 Try.func33 (c := bodyOf Try.f33) (by kernel_rfl) (by kernel_rfl) (lkΓ_cons (g := 57) (s0 := arena_Pin_S) arena_Pin_ok (lkΓ_cons (g := 58) (s0 := arena_End_S) arena_End_ok (lkΓ_cons (g := 59) (s0 := arena_Retire_S) arena_Retire_ok (lkΓ_cons (g := 60) (s0 := arena_Take_S) arena_Take_ok lkΓ_nil)))) (by decide +kernel) (by decide +kernel) (fun _ _ _ => rfl) ask_records_cuts (fun x => ask_records_run  x), bodied_of Try.func33 (by decide +kernel) (by decide +kernel)⟩

theorem ask_Do_ok : SigOk Try.prog 15 ask_Do_S ∧ Bodied Try.prog 15 :=
  ⟨fn_sound (s := ask_Do_S) (T := []) (Λ := fun _ _ _ _ => none) 0 Try.func15 (c := bodyOf Try.f15) (by kernel_rfl) (by kernel_rfl) (lkΓ_cons (g := 13) (s0 := ask_Waits_S) ask_Waits_ok (lkΓ_cons (g := 18) (s0 := shape_Check_S) shape_Check_ok (lkΓ_cons (g := 30) (s0 := ask_words_S) ask_words_ok (lkΓ_cons (g := 31) (s0 := ask_touch_S) ask_touch_ok (lkΓ_cons (g := 32) (s0 := ask_latches_S) ask_latches_ok (lkΓ_cons (g := 33) (s0 := ask_records_S) ask_records_ok lkΓ_nil)))))) (by decide +kernel) (by decide +kernel) (fun _ _ _ => rfl) ask_Do_cuts (fun x => ask_Do_run  x), bodied_of Try.func15 (by decide +kernel) (by decide +kernel)⟩

theorem tendrillaw16_plain_ok : SigOk Try.prog 20 tendrillaw16_plain_S ∧ Bodied Try.prog 20 :=
  ⟨fn_sound (s := tendrillaw16_plain_S) (T := []) (Λ := fun _ _ _ _ => none) 0 Try.func20 (c := bodyOf Try.f20) (by kernel_rfl) (by kernel_rfl) lkΓ_nil (by decide +kernel) (by decide +kernel) (fun _ _ _ => rfl) tendrillaw16_plain_cuts (fun x => tendrillaw16_plain_run  x), bodied_of Try.func20 (by decide +kernel) (by decide +kernel)⟩

theorem tendrillaw16_live_ok : SigOk Try.prog 8 tendrillaw16_live_S ∧ Bodied Try.prog 8 :=
  ⟨fn_sound (s := tendrillaw16_live_S) (T := []) (Λ := fun _ _ _ _ => none) 0 Try.func8 (c := bodyOf Try.f8) (by kernel_rfl) (by kernel_rfl) (lkΓ_cons (g := 10) (s0 := ask_New_S) ask_New_ok (lkΓ_cons (g := 13) (s0 := ask_Waits_S) ask_Waits_ok (lkΓ_cons (g := 15) (s0 := ask_Do_S) ask_Do_ok (lkΓ_cons (g := 20) (s0 := tendrillaw16_plain_S) tendrillaw16_plain_ok lkΓ_nil)))) (by decide +kernel) (by decide +kernel) (fun _ _ _ => rfl) tendrillaw16_live_cuts (fun x => tendrillaw16_live_run  x), bodied_of Try.func8 (by decide +kernel) (by decide +kernel)⟩

theorem tendrilref05_Few_ok : SigOk Try.prog 21 tendrilref05_Few_S ∧ Bodied Try.prog 21 :=
  ⟨fn_sound (s := tendrilref05_Few_S) (T := []) (Λ := fun _ _ _ _ => none) 0 Try.func21 (c := bodyOf Try.f21) (by kernel_rfl) (by kernel_rfl) lkΓ_nil (by decide +kernel) (by decide +kernel) (fun _ _ _ => rfl) tendrilref05_Few_cuts (fun x => tendrilref05_Few_run  x), bodied_of Try.func21 (by decide +kernel) (by decide +kernel)⟩

theorem tendrilref07_Few_ok : SigOk Try.prog 9 tendrilref07_Few_S ∧ Bodied Try.prog 9 :=
  ⟨fn_sound (s := tendrilref07_Few_S) (T := [(6, [1, 6, 7])]) (Λ := tendrilref07_Few_Λ) 2000000 Try.func9 (c := bodyOf Try.f9) (by kernel_rfl) (by kernel_rfl) (lkΓ_cons (g := 21) (s0 := tendrilref05_Few_S) tendrilref05_Few_ok lkΓ_nil) (by decide +kernel) (by decide +kernel) tendrilref07_Few_Λ0 tendrilref07_Few_cuts (fun x => tendrilref07_Few_run 2000000 x), bodied_of Try.func9 (by decide +kernel) (by decide +kernel)⟩

theorem tendrilref06_New_ok : SigOk Try.prog 43 tendrilref06_New_S ∧ Bodied Try.prog 43 :=
  ⟨fn_sound (s := tendrilref06_New_S) (T := [(12, [2, 4, 13, 14])]) (Λ := tendrilref06_New_Λ) 2000000 Try.func43 (c := bodyOf Try.f43) (by kernel_rfl) (by kernel_rfl) lkΓ_nil (by decide +kernel) (by decide +kernel) tendrilref06_New_Λ0 tendrilref06_New_cuts (fun x => tendrilref06_New_run 2000000 x), bodied_of Try.func43 (by decide +kernel) (by decide +kernel)⟩

theorem tendrilref03_Check_ok : SigOk Try.prog 44 tendrilref03_Check_S ∧ Bodied Try.prog 44 :=
  ⟨fn_sound (s := tendrilref03_Check_S) (T := [(6, [15, 16, 17])]) (Λ := tendrilref03_Check_Λ) 2000000 Try.func44 (c := bodyOf Try.f44) (by kernel_rfl) (by kernel_rfl) lkΓ_nil (by decide +kernel) (by decide +kernel) tendrilref03_Check_Λ0 tendrilref03_Check_cuts (fun x => tendrilref03_Check_run 2000000 x), bodied_of Try.func44 (by decide +kernel) (by decide +kernel)⟩

theorem tendrilref03_Cap_ok : SigOk Try.prog 45 tendrilref03_Cap_S ∧ Bodied Try.prog 45 :=
  ⟨fn_sound (s := tendrilref03_Cap_S) (T := []) (Λ := fun _ _ _ _ => none) 0 Try.func45 (c := bodyOf Try.f45) (by kernel_rfl) (by kernel_rfl) lkΓ_nil (by decide +kernel) (by decide +kernel) (fun _ _ _ => rfl) tendrilref03_Cap_cuts (fun x => tendrilref03_Cap_run  x), bodied_of Try.func45 (by decide +kernel) (by decide +kernel)⟩

theorem tendrilref05_New_ok : SigOk Try.prog 46 tendrilref05_New_S ∧ Bodied Try.prog 46 :=
  ⟨fn_sound (s := tendrilref05_New_S) (T := [(12, [2, 4, 20, 21])]) (Λ := tendrilref05_New_Λ) 2000000 Try.func46 (c := bodyOf Try.f46) (by kernel_rfl) (by kernel_rfl) lkΓ_nil (by decide +kernel) (by decide +kernel) tendrilref05_New_Λ0 tendrilref05_New_cuts (fun x => tendrilref05_New_run 2000000 x), bodied_of Try.func46 (by decide +kernel) (by decide +kernel)⟩

theorem tendrilref07_New_ok : SigOk Try.prog 24 tendrilref07_New_S ∧ Bodied Try.prog 24 :=
  ⟨fn_sound (s := tendrilref07_New_S) (T := [(14, [2, 4, 8, 27])]) (Λ := tendrilref07_New_Λ) 2000000 Try.func24 (c := bodyOf Try.f24) (by kernel_rfl) (by kernel_rfl) (lkΓ_cons (g := 43) (s0 := tendrilref06_New_S) tendrilref06_New_ok (lkΓ_cons (g := 44) (s0 := tendrilref03_Check_S) tendrilref03_Check_ok (lkΓ_cons (g := 45) (s0 := tendrilref03_Cap_S) tendrilref03_Cap_ok (lkΓ_cons (g := 46) (s0 := tendrilref05_New_S) tendrilref05_New_ok lkΓ_nil)))) (by decide +kernel) (by decide +kernel) tendrilref07_New_Λ0 tendrilref07_New_cuts (fun x => tendrilref07_New_run 2000000 x), bodied_of Try.func24 (by decide +kernel) (by decide +kernel)⟩

theorem tendrilref03_Size_ok : SigOk Try.prog 47 tendrilref03_Size_S ∧ Bodied Try.prog 47 :=
  ⟨fn_sound (s := tendrilref03_Size_S) (T := []) (Λ := fun _ _ _ _ => none) 0 Try.func47 (c := bodyOf Try.f47) (by kernel_rfl) (by kernel_rfl) (lkΓ_cons (g := 44) (s0 := tendrilref03_Check_S) tendrilref03_Check_ok lkΓ_nil) (by decide +kernel) (by decide +kernel) (fun _ _ _ => rfl) tendrilref03_Size_cuts (fun x => tendrilref03_Size_run  x), bodied_of Try.func47 (by decide +kernel) (by decide +kernel)⟩

theorem tendrilref03_New_ok : SigOk Try.prog 25 tendrilref03_New_S ∧ Bodied Try.prog 25 :=
  ⟨fn_sound (s := tendrilref03_New_S) (T := []) (Λ := fun _ _ _ _ => none) 0 Try.func25 (c := bodyOf Try.f25) (by kernel_rfl) (by kernel_rfl) (lkΓ_cons (g := 44) (s0 := tendrilref03_Check_S) tendrilref03_Check_ok (lkΓ_cons (g := 47) (s0 := tendrilref03_Size_S) tendrilref03_Size_ok lkΓ_nil)) (by decide +kernel) (by decide +kernel) (fun _ _ _ => rfl) tendrilref03_New_cuts (fun x => tendrilref03_New_run  x), bodied_of Try.func25 (by decide +kernel) (by decide +kernel)⟩

theorem tendrilref15_New_ok : SigOk Try.prog 11 tendrilref15_New_S ∧ Bodied Try.prog 11 :=
  ⟨fn_sound (s := tendrilref15_New_S) (T := []) (Λ := fun _ _ _ _ => none) 0 Try.func11 (c := bodyOf Try.f11) (by kernel_rfl) (by kernel_rfl) (lkΓ_cons (g := 24) (s0 := tendrilref07_New_S) tendrilref07_New_ok (lkΓ_cons (g := 25) (s0 := tendrilref03_New_S) tendrilref03_New_ok lkΓ_nil)) (by decide +kernel) (by decide +kernel) (fun _ _ _ => rfl) tendrilref15_New_cuts (fun x => tendrilref15_New_run  x), bodied_of Try.func11 (by decide +kernel) (by decide +kernel)⟩

theorem tendrilref02_Same_ok : SigOk Try.prog 26 tendrilref02_Same_S ∧ Bodied Try.prog 26 :=
  ⟨fn_sound (s := tendrilref02_Same_S) (T := [(10, [0, 1, 12, 13])]) (Λ := tendrilref02_Same_Λ) 2000000 Try.func26 (c := bodyOf Try.f26) (by kernel_rfl) (by kernel_rfl) lkΓ_nil (by decide +kernel) (by decide +kernel) tendrilref02_Same_Λ0 tendrilref02_Same_cuts (fun x => tendrilref02_Same_run 2000000 x), bodied_of Try.func26 (by decide +kernel) (by decide +kernel)⟩

theorem tendrilref06_Same_ok : SigOk Try.prog 16 tendrilref06_Same_S ∧ Bodied Try.prog 16 :=
  ⟨fn_sound (s := tendrilref06_Same_S) (T := []) (Λ := fun _ _ _ _ => none) 0 Try.func16 (c := bodyOf Try.f16) (by kernel_rfl) (by kernel_rfl) (lkΓ_cons (g := 26) (s0 := tendrilref02_Same_S) tendrilref02_Same_ok lkΓ_nil) (by decide +kernel) (by decide +kernel) (fun _ _ _ => rfl) tendrilref06_Same_cuts (fun x => tendrilref06_Same_run  x), bodied_of Try.func16 (by decide +kernel) (by decide +kernel)⟩

theorem tendrilref05_Same_ok : SigOk Try.prog 17 tendrilref05_Same_S ∧ Bodied Try.prog 17 :=
  ⟨fn_sound (s := tendrilref05_Same_S) (T := []) (Λ := fun _ _ _ _ => none) 0 Try.func17 (c := bodyOf Try.f17) (by kernel_rfl) (by kernel_rfl) (lkΓ_cons (g := 26) (s0 := tendrilref02_Same_S) tendrilref02_Same_ok lkΓ_nil) (by decide +kernel) (by decide +kernel) (fun _ _ _ => rfl) tendrilref05_Same_cuts (fun x => tendrilref05_Same_run  x), bodied_of Try.func17 (by decide +kernel) (by decide +kernel)⟩

theorem tendrilref07_Same_ok : SigOk Try.prog 12 tendrilref07_Same_S ∧ Bodied Try.prog 12 :=
  ⟨fn_sound (s := tendrilref07_Same_S) (T := [(6, [2, 3, 6])]) (Λ := tendrilref07_Same_Λ) 2000000 Try.func12 (c := bodyOf Try.f12) (by kernel_rfl) (by kernel_rfl) (lkΓ_cons (g := 16) (s0 := tendrilref06_Same_S) tendrilref06_Same_ok (lkΓ_cons (g := 17) (s0 := tendrilref05_Same_S) tendrilref05_Same_ok (lkΓ_cons (g := 26) (s0 := tendrilref02_Same_S) tendrilref02_Same_ok lkΓ_nil))) (by decide +kernel) (by decide +kernel) tendrilref07_Same_Λ0 tendrilref07_Same_cuts (fun x => tendrilref07_Same_run 2000000 x), bodied_of Try.func12 (by decide +kernel) (by decide +kernel)⟩

theorem tendrilref08_Check_ok : SigOk Try.prog 48 tendrilref08_Check_S ∧ Bodied Try.prog 48 :=
  ⟨fn_sound (s := tendrilref08_Check_S) (T := []) (Λ := fun _ _ _ _ => none) 0 Try.func48 (c := bodyOf Try.f48) (by kernel_rfl) (by kernel_rfl) lkΓ_nil (by decide +kernel) (by decide +kernel) (fun _ _ _ => rfl) tendrilref08_Check_cuts (fun x => tendrilref08_Check_run  x), bodied_of Try.func48 (by decide +kernel) (by decide +kernel)⟩

theorem tendrilref08_Held_ok : SigOk Try.prog 29 tendrilref08_Held_S ∧ Bodied Try.prog 29 :=
  ⟨fn_sound (s := tendrilref08_Held_S) (T := []) (Λ := fun _ _ _ _ => none) 0 Try.func29 (c := bodyOf Try.f29) (by kernel_rfl) (by kernel_rfl) (lkΓ_cons (g := 48) (s0 := tendrilref08_Check_S) tendrilref08_Check_ok lkΓ_nil) (by decide +kernel) (by decide +kernel) (fun _ _ _ => rfl) tendrilref08_Held_cuts (fun x => tendrilref08_Held_run  x), bodied_of Try.func29 (by decide +kernel) (by decide +kernel)⟩

theorem tendrilref16_Waits_ok : SigOk Try.prog 14 tendrilref16_Waits_S ∧ Bodied Try.prog 14 :=
  ⟨fn_sound (s := tendrilref16_Waits_S) (T := []) (Λ := fun _ _ _ _ => none) 0 Try.func14 (c := bodyOf Try.f14) (by kernel_rfl) (by kernel_rfl) (lkΓ_cons (g := 29) (s0 := tendrilref08_Held_S) tendrilref08_Held_ok lkΓ_nil) (by decide +kernel) (by decide +kernel) (fun _ _ _ => rfl) tendrilref16_Waits_cuts (fun x => tendrilref16_Waits_run  x), bodied_of Try.func14 (by decide +kernel) (by decide +kernel)⟩

theorem tendrillaw16_AskBegins_ok : SigOk Try.prog 3 tendrillaw16_AskBegins_S ∧ Bodied Try.prog 3 :=
  ⟨fn_sound (s := tendrillaw16_AskBegins_S) (T := []) (Λ := fun _ _ _ _ => none) 0 Try.func3 (c := bodyOf Try.f3) (by kernel_rfl) (by kernel_rfl) (lkΓ_cons (g := 8) (s0 := tendrillaw16_live_S) tendrillaw16_live_ok (lkΓ_cons (g := 9) (s0 := tendrilref07_Few_S) tendrilref07_Few_ok (lkΓ_cons (g := 10) (s0 := ask_New_S) ask_New_ok (lkΓ_cons (g := 11) (s0 := tendrilref15_New_S) tendrilref15_New_ok (lkΓ_cons (g := 12) (s0 := tendrilref07_Same_S) tendrilref07_Same_ok (lkΓ_cons (g := 13) (s0 := ask_Waits_S) ask_Waits_ok (lkΓ_cons (g := 14) (s0 := tendrilref16_Waits_S) tendrilref16_Waits_ok lkΓ_nil))))))) (by decide +kernel) (by decide +kernel) (fun _ _ _ => rfl) tendrillaw16_AskBegins_cuts (fun x => tendrillaw16_AskBegins_run  x), bodied_of Try.func3 (by decide +kernel) (by decide +kernel)⟩

theorem tendrillaw16_AskOne_ok : SigOk Try.prog 4 tendrillaw16_AskOne_S ∧ Bodied Try.prog 4 :=
  ⟨fn_sound (s := tendrillaw16_AskOne_S) (T := [(52, [5, 7, 9, 13, 14, 17, 100]), (38, [5, 7, 9, 13, 14, 77, 78]), (26, [5, 7, 9, 13, 14, 57, 58])]) (Λ := tendrillaw16_AskOne_Λ) 2000000 Try.func4 (c := bodyOf Try.f4) (by kernel_rfl) (by kernel_rfl) (lkΓ_cons (g := 8) (s0 := tendrillaw16_live_S) tendrillaw16_live_ok (lkΓ_cons (g := 9) (s0 := tendrilref07_Few_S) tendrilref07_Few_ok (lkΓ_cons (g := 12) (s0 := tendrilref07_Same_S) tendrilref07_Same_ok (lkΓ_cons (g := 15) (s0 := ask_Do_S) ask_Do_ok (lkΓ_cons (g := 16) (s0 := tendrilref06_Same_S) tendrilref06_Same_ok (lkΓ_cons (g := 17) (s0 := tendrilref05_Same_S) tendrilref05_Same_ok lkΓ_nil)))))) (by decide +kernel) (by decide +kernel) tendrillaw16_AskOne_Λ0 tendrillaw16_AskOne_cuts (fun x => tendrillaw16_AskOne_run 2000000 x), bodied_of Try.func4 (by decide +kernel) (by decide +kernel)⟩

theorem tendrillaw16_AskBack_ok : SigOk Try.prog 5 tendrillaw16_AskBack_S ∧ Bodied Try.prog 5 :=
  ⟨fn_sound (s := tendrillaw16_AskBack_S) (T := []) (Λ := fun _ _ _ _ => none) 0 Try.func5 (c := bodyOf Try.f5) (by kernel_rfl) (by kernel_rfl) (lkΓ_cons (g := 8) (s0 := tendrillaw16_live_S) tendrillaw16_live_ok (lkΓ_cons (g := 9) (s0 := tendrilref07_Few_S) tendrilref07_Few_ok (lkΓ_cons (g := 12) (s0 := tendrilref07_Same_S) tendrilref07_Same_ok (lkΓ_cons (g := 15) (s0 := ask_Do_S) ask_Do_ok lkΓ_nil)))) (by decide +kernel) (by decide +kernel) (fun _ _ _ => rfl) tendrillaw16_AskBack_cuts (fun x => tendrillaw16_AskBack_run  x), bodied_of Try.func5 (by decide +kernel) (by decide +kernel)⟩

theorem tendrillaw16_AskLatch_ok : SigOk Try.prog 6 tendrillaw16_AskLatch_S ∧ Bodied Try.prog 6 :=
  ⟨fn_sound (s := tendrillaw16_AskLatch_S) (T := []) (Λ := fun _ _ _ _ => none) 0 Try.func6 (c := bodyOf Try.f6) (by kernel_rfl) (by kernel_rfl) (lkΓ_cons (g := 8) (s0 := tendrillaw16_live_S) tendrillaw16_live_ok (lkΓ_cons (g := 9) (s0 := tendrilref07_Few_S) tendrilref07_Few_ok (lkΓ_cons (g := 13) (s0 := ask_Waits_S) ask_Waits_ok (lkΓ_cons (g := 15) (s0 := ask_Do_S) ask_Do_ok (lkΓ_cons (g := 18) (s0 := shape_Check_S) shape_Check_ok lkΓ_nil))))) (by decide +kernel) (by decide +kernel) (fun _ _ _ => rfl) tendrillaw16_AskLatch_cuts (fun x => tendrillaw16_AskLatch_run  x), bodied_of Try.func6 (by decide +kernel) (by decide +kernel)⟩

theorem tendrillaw16_AskTouches_ok : SigOk Try.prog 7 tendrillaw16_AskTouches_S ∧ Bodied Try.prog 7 :=
  ⟨fn_sound (s := tendrillaw16_AskTouches_S) (T := []) (Λ := fun _ _ _ _ => none) 0 Try.func7 (c := bodyOf Try.f7) (by kernel_rfl) (by kernel_rfl) (lkΓ_cons (g := 8) (s0 := tendrillaw16_live_S) tendrillaw16_live_ok (lkΓ_cons (g := 9) (s0 := tendrilref07_Few_S) tendrilref07_Few_ok (lkΓ_cons (g := 15) (s0 := ask_Do_S) ask_Do_ok (lkΓ_cons (g := 19) (s0 := tag_Unpack_S) tag_Unpack_ok lkΓ_nil)))) (by decide +kernel) (by decide +kernel) (fun _ _ _ => rfl) tendrillaw16_AskTouches_cuts (fun x => tendrillaw16_AskTouches_run  x), bodied_of Try.func7 (by decide +kernel) (by decide +kernel)⟩

end Go.Proofs.YtcoiboghdmmdcadFn
