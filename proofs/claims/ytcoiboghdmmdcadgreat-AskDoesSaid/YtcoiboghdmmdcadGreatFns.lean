/- The contracts of the functions that this seat's laws reach; no condition. -/
import Derived.Test.YtcoiboghdmmdcadGreatProg
import Derived.KernelRfl
import Derived.Test.YtcoiboghdmmdcadGreatPx25
import Derived.Test.YtcoiboghdmmdcadGreatFnsD
import Derived.Test.YtcoiboghdmmdcadGreatFnsA0
import Derived.Test.YtcoiboghdmmdcadGreatFnsA1
import Derived.Test.YtcoiboghdmmdcadGreatFnsA2
import Derived.Test.YtcoiboghdmmdcadGreatFnsA3
import Derived.Test.YtcoiboghdmmdcadGreatFnsA4
import Derived.Test.YtcoiboghdmmdcadGreatFnsA5
import Derived.Test.YtcoiboghdmmdcadGreatFnsA6
set_option linter.unusedVariables false
set_option linter.unusedSimpArgs false
namespace Go.Proofs.YtcoiboghdmmdcadGreatFn
open Go Go.RowKit Go.Proofs.YtcoiboghdmmdcadGreatPx
theorem ask_has_ok : SigOk Tryz.prog 30 ask_has_S ∧ Bodied Tryz.prog 30 :=
  ⟨fn_sound (s := ask_has_S) (T := []) (Λ := fun _ _ _ _ => none) 0 Tryz.func30 (c := bodyOf Tryz.f30) (by kernel_rfl) (by kernel_rfl) lkΓ_nil (by decide +kernel) (by decide +kernel) (fun _ _ _ => rfl) ask_has_cuts (fun x => ask_has_run  x), bodied_of Tryz.func30 (by decide +kernel) (by decide +kernel)⟩

theorem latch_Check_ok : SigOk Tryz.prog 37 latch_Check_S ∧ Bodied Tryz.prog 37 :=
  ⟨fn_sound (s := latch_Check_S) (T := []) (Λ := fun _ _ _ _ => none) 0 Tryz.func37 (c := bodyOf Tryz.f37) (by kernel_rfl) (by kernel_rfl) lkΓ_nil (by decide +kernel) (by decide +kernel) (fun _ _ _ => rfl) latch_Check_cuts (fun x => latch_Check_run  x), bodied_of Tryz.func37 (by decide +kernel) (by decide +kernel)⟩

theorem latch_Held_ok : SigOk Tryz.prog 31 latch_Held_S ∧ Bodied Tryz.prog 31 :=
  ⟨fn_sound (s := latch_Held_S) (T := []) (Λ := fun _ _ _ _ => none) 0 Tryz.func31 (c := bodyOf Tryz.f31) (by kernel_rfl) (by kernel_rfl) (lkΓ_cons (g := 37) (s0 := latch_Check_S) latch_Check_ok lkΓ_nil) (by decide +kernel) (by decide +kernel) (fun _ _ _ => rfl) latch_Held_cuts (fun x => latch_Held_run  x), bodied_of Tryz.func31 (by decide +kernel) (by decide +kernel)⟩

theorem ask_Waits_ok : SigOk Tryz.prog 13 ask_Waits_S ∧ Bodied Tryz.prog 13 :=
  ⟨fn_sound (s := ask_Waits_S) (T := []) (Λ := fun _ _ _ _ => none) 0 Tryz.func13 (c := bodyOf Tryz.f13) (by kernel_rfl) (by kernel_rfl) (lkΓ_cons (g := 30) (s0 := ask_has_S) ask_has_ok (lkΓ_cons (g := 31) (s0 := latch_Held_S) latch_Held_ok lkΓ_nil)) (by decide +kernel) (by decide +kernel) (fun _ _ _ => rfl) ask_Waits_cuts (fun x => ask_Waits_run  x), bodied_of Tryz.func13 (by decide +kernel) (by decide +kernel)⟩

theorem place_Check_ok : SigOk Tryz.prog 32 place_Check_S ∧ Bodied Tryz.prog 32 :=
  ⟨fn_sound (s := place_Check_S) (T := []) (Λ := fun _ _ _ _ => none) 0 Tryz.func32 (c := bodyOf Tryz.f32) (by kernel_rfl) (by kernel_rfl) lkΓ_nil (by decide +kernel) (by decide +kernel) (fun _ _ _ => rfl) place_Check_cuts (fun x => place_Check_run  x), bodied_of Tryz.func32 (by decide +kernel) (by decide +kernel)⟩

theorem slices_Index_ok : SigOk Tryz.prog 112 slices_Index_S ∧ Bodied Tryz.prog 112 :=
  ⟨fn_sound (s := slices_Index_S) (T := [(6, [0, 1, 7, 8])]) (Λ := slices_Index_Λ) 2000000 Tryz.func112 (c := bodyOf Tryz.f112) (by kernel_rfl) (by kernel_rfl) lkΓ_nil (by decide +kernel) (by decide +kernel) slices_Index_Λ0 slices_Index_cuts (fun x => slices_Index_run 2000000 x), bodied_of Tryz.func112 (by decide +kernel) (by decide +kernel)⟩

theorem slices_Contains_ok : SigOk Tryz.prog 95 slices_Contains_S ∧ Bodied Tryz.prog 95 :=
  ⟨fn_sound (s := slices_Contains_S) (T := []) (Λ := fun _ _ _ _ => none) 0 Tryz.func95 (c := bodyOf Tryz.f95) (by kernel_rfl) (by kernel_rfl) (lkΓ_cons (g := 112) (s0 := slices_Index_S) slices_Index_ok lkΓ_nil) (by decide +kernel) (by decide +kernel) (fun _ _ _ => rfl) slices_Contains_cuts (fun x => slices_Contains_run  x), bodied_of Tryz.func95 (by decide +kernel) (by decide +kernel)⟩

theorem pool_Check_ok : SigOk Tryz.prog 72 pool_Check_S ∧ Bodied Tryz.prog 72 :=
  ⟨fn_sound (s := pool_Check_S) (T := [(28, [3, 4, 83, 84, 85]), (14, [1, 3, 4, 35, 36, 37])]) (Λ := pool_Check_Λ) 2000000 Tryz.func72 (c := bodyOf Tryz.f72) (by kernel_rfl) (by kernel_rfl) (lkΓ_cons (g := 95) (s0 := slices_Contains_S) slices_Contains_ok lkΓ_nil) (by decide +kernel) (by decide +kernel) pool_Check_Λ0 pool_Check_cuts (fun x => pool_Check_run 2000000 x), bodied_of Tryz.func72 (by decide +kernel) (by decide +kernel)⟩

theorem era_Check_1_ok : SigOk Tryz.prog 96 era_Check_1_S ∧ Bodied Tryz.prog 96 :=
  ⟨fn_sound (s := era_Check_1_S) (T := []) (Λ := fun _ _ _ _ => none) 0 Tryz.func96 (c := bodyOf Tryz.f96) (by kernel_rfl) (by kernel_rfl) lkΓ_nil (by decide +kernel) (by decide +kernel) (fun _ _ _ => rfl) era_Check_1_cuts (fun x => era_Check_1_run  x), bodied_of Tryz.func96 (by decide +kernel) (by decide +kernel)⟩

theorem slices_IndexFunc_era_Check_1_ok : SigOk Tryz.prog 75 slices_IndexFunc_era_Check_1_S ∧ Bodied Tryz.prog 75 :=
  ⟨fn_sound (s := slices_IndexFunc_era_Check_1_S) (T := [(6, [0, 1, 7, 8])]) (Λ := slices_IndexFunc_era_Check_1_Λ) 2000000 Tryz.func75 (c := bodyOf Tryz.f75) (by kernel_rfl) (by kernel_rfl) (lkΓ_cons (g := 96) (s0 := era_Check_1_S) era_Check_1_ok lkΓ_nil) (by decide +kernel) (by decide +kernel) slices_IndexFunc_era_Check_1_Λ0 slices_IndexFunc_era_Check_1_cuts (fun x => slices_IndexFunc_era_Check_1_run 2000000 x), bodied_of Tryz.func75 (by decide +kernel) (by decide +kernel)⟩

theorem slices_ContainsFunc_era_Check_1_ok : SigOk Tryz.prog 35 slices_ContainsFunc_era_Check_1_S ∧ Bodied Tryz.prog 35 :=
  ⟨fn_sound (s := slices_ContainsFunc_era_Check_1_S) (T := []) (Λ := fun _ _ _ _ => none) 0 Tryz.func35 (c := bodyOf Tryz.f35) (by kernel_rfl) (by kernel_rfl) (lkΓ_cons (g := 97000075) (s0 := slices_IndexFunc_era_Check_1_S) slices_IndexFunc_era_Check_1_ok lkΓ_nil) (by decide +kernel) (by decide +kernel) (fun _ _ _ => rfl) slices_ContainsFunc_era_Check_1_cuts (fun x => slices_ContainsFunc_era_Check_1_run  x), bodied_of Tryz.func35 (by decide +kernel) (by decide +kernel)⟩

theorem era_Check_ok : SigOk Tryz.prog 73 era_Check_S ∧ Bodied Tryz.prog 73 :=
  ⟨fn_sound (s := era_Check_S) (T := []) (Λ := fun _ _ _ _ => none) 0 Tryz.func73 (c := bodyOf Tryz.f73) (by kernel_rfl) (by kernel_rfl) (lkΓ_cons (g := 97000035) (s0 := slices_ContainsFunc_era_Check_1_S) slices_ContainsFunc_era_Check_1_ok lkΓ_nil) (by decide +kernel) (by decide +kernel) (fun _ _ _ => rfl) era_Check_cuts (fun x => era_Check_run  x), bodied_of Tryz.func73 (by decide +kernel) (by decide +kernel)⟩

theorem arena_Check_ok : SigOk Tryz.prog 33 arena_Check_S ∧ Bodied Tryz.prog 33 :=
  ⟨fn_sound (s := arena_Check_S) (T := [(6, [1, 7, 8])]) (Λ := arena_Check_Λ) 2000000 Tryz.func33 (c := bodyOf Tryz.f33) (by kernel_rfl) (by kernel_rfl) (lkΓ_cons (g := 72) (s0 := pool_Check_S) pool_Check_ok (lkΓ_cons (g := 73) (s0 := era_Check_S) era_Check_ok lkΓ_nil)) (by decide +kernel) (by decide +kernel) arena_Check_Λ0 arena_Check_cuts (fun x => arena_Check_run 2000000 x), bodied_of Tryz.func33 (by decide +kernel) (by decide +kernel)⟩

theorem place_kinds_ok : SigOk Tryz.prog 74 place_kinds_S ∧ Bodied Tryz.prog 74 :=
  ⟨fn_sound (s := place_kinds_S) (T := []) (Λ := fun _ _ _ _ => none) 0 Tryz.func74 (c := bodyOf Tryz.f74) (by kernel_rfl) (by kernel_rfl) lkΓ_nil (by decide +kernel) (by decide +kernel) (fun _ _ _ => rfl) place_kinds_cuts (fun x => place_kinds_run  x), bodied_of Tryz.func74 (by decide +kernel) (by decide +kernel)⟩

theorem place_Size_ok : SigOk Tryz.prog 34 place_Size_S ∧ Bodied Tryz.prog 34 :=
  ⟨fn_sound (s := place_Size_S) (T := []) (Λ := fun _ _ _ _ => none) 0 Tryz.func34 (c := bodyOf Tryz.f34) (by kernel_rfl) (by kernel_rfl) (lkΓ_cons (g := 32) (s0 := place_Check_S) place_Check_ok (lkΓ_cons (g := 74) (s0 := place_kinds_S) place_kinds_ok lkΓ_nil)) (by decide +kernel) (by decide +kernel) (fun _ _ _ => rfl) place_Size_cuts (fun x => place_Size_run  x), bodied_of Tryz.func34 (by decide +kernel) (by decide +kernel)⟩

theorem shape_Check_1_ok : SigOk Tryz.prog 36 shape_Check_1_S ∧ Bodied Tryz.prog 36 :=
  ⟨fn_sound (s := shape_Check_1_S) (T := []) (Λ := fun _ _ _ _ => none) 0 Tryz.func36 (c := bodyOf Tryz.f36) (by kernel_rfl) (by kernel_rfl) (lkΓ_cons (g := 37) (s0 := latch_Check_S) latch_Check_ok lkΓ_nil) (by decide +kernel) (by decide +kernel) (fun _ _ _ => rfl) shape_Check_1_cuts (fun x => shape_Check_1_run  x), bodied_of Tryz.func36 (by decide +kernel) (by decide +kernel)⟩

theorem slices_IndexFunc_shape_Check_1_ok : SigOk Tryz.prog 75 slices_IndexFunc_shape_Check_1_S ∧ Bodied Tryz.prog 75 :=
  ⟨fn_sound (s := slices_IndexFunc_shape_Check_1_S) (T := [(6, [0, 1, 7, 8])]) (Λ := slices_IndexFunc_shape_Check_1_Λ) 2000000 Tryz.func75 (c := bodyOf Tryz.f75) (by kernel_rfl) (by kernel_rfl) (lkΓ_cons (g := 36) (s0 := shape_Check_1_S) shape_Check_1_ok lkΓ_nil) (by decide +kernel) (by decide +kernel) slices_IndexFunc_shape_Check_1_Λ0 slices_IndexFunc_shape_Check_1_cuts (fun x => slices_IndexFunc_shape_Check_1_run 2000000 x), bodied_of Tryz.func75 (by decide +kernel) (by decide +kernel)⟩

theorem slices_ContainsFunc_shape_Check_1_ok : SigOk Tryz.prog 35 slices_ContainsFunc_shape_Check_1_S ∧ Bodied Tryz.prog 35 :=
  ⟨fn_sound (s := slices_ContainsFunc_shape_Check_1_S) (T := []) (Λ := fun _ _ _ _ => none) 0 Tryz.func35 (c := bodyOf Tryz.f35) (by kernel_rfl) (by kernel_rfl) (lkΓ_cons (g := 37000075) (s0 := slices_IndexFunc_shape_Check_1_S) slices_IndexFunc_shape_Check_1_ok lkΓ_nil) (by decide +kernel) (by decide +kernel) (fun _ _ _ => rfl) slices_ContainsFunc_shape_Check_1_cuts (fun x => slices_ContainsFunc_shape_Check_1_run  x), bodied_of Tryz.func35 (by decide +kernel) (by decide +kernel)⟩

theorem shape_Check_ok : SigOk Tryz.prog 15 shape_Check_S ∧ Bodied Tryz.prog 15 :=
  ⟨fn_sound (s := shape_Check_S) (T := [(10, [3, 38, 39])]) (Λ := shape_Check_Λ) 2000000 Tryz.func15 (c := bodyOf Tryz.f15) (by kernel_rfl) (by kernel_rfl) (lkΓ_cons (g := 32) (s0 := place_Check_S) place_Check_ok (lkΓ_cons (g := 33) (s0 := arena_Check_S) arena_Check_ok (lkΓ_cons (g := 34) (s0 := place_Size_S) place_Size_ok (lkΓ_cons (g := 37000035) (s0 := slices_ContainsFunc_shape_Check_1_S) slices_ContainsFunc_shape_Check_1_ok lkΓ_nil)))) (by decide +kernel) (by decide +kernel) shape_Check_Λ0 shape_Check_cuts (fun x => shape_Check_run 2000000 x), bodied_of Tryz.func15 (by decide +kernel) (by decide +kernel)⟩

theorem mem_in_ok : SigOk Tryz.prog 77 mem_in_S ∧ Bodied Tryz.prog 77 :=
  ⟨fn_sound (s := mem_in_S) (T := []) (Λ := fun _ _ _ _ => none) 0 Tryz.func77 (c := bodyOf Tryz.f77) (by kernel_rfl) (by kernel_rfl) lkΓ_nil (by decide +kernel) (by decide +kernel) (fun _ _ _ => rfl) mem_in_cuts (fun x => mem_in_run  x), bodied_of Tryz.func77 (by decide +kernel) (by decide +kernel)⟩

theorem mem_Load_ok : SigOk Tryz.prog 39 mem_Load_S ∧ Bodied Tryz.prog 39 :=
  ⟨fn_sound (s := mem_Load_S) (T := []) (Λ := fun _ _ _ _ => none) 0 Tryz.func39 (c := bodyOf Tryz.f39) (by kernel_rfl) (by kernel_rfl) (lkΓ_cons (g := 77) (s0 := mem_in_S) mem_in_ok lkΓ_nil) (by decide +kernel) (by decide +kernel) (fun _ _ _ => rfl) mem_Load_cuts (fun x => mem_Load_run  x), bodied_of Tryz.func39 (by decide +kernel) (by decide +kernel)⟩

theorem tag_Unpack_ok : SigOk Tryz.prog 42 tag_Unpack_S ∧ Bodied Tryz.prog 42 :=
  ⟨fn_sound (s := tag_Unpack_S) (T := []) (Λ := fun _ _ _ _ => none) 0 Tryz.func42 (c := bodyOf Tryz.f42) (by kernel_rfl) (by kernel_rfl) lkΓ_nil (by decide +kernel) (by decide +kernel) (fun _ _ _ => rfl) tag_Unpack_cuts (fun x => tag_Unpack_run  x), bodied_of Tryz.func42 (by decide +kernel) (by decide +kernel)⟩

theorem place_Field_ok : SigOk Tryz.prog 97 place_Field_S ∧ Bodied Tryz.prog 97 :=
  ⟨fn_sound (s := place_Field_S) (T := []) (Λ := fun _ _ _ _ => none) 0 Tryz.func97 (c := bodyOf Tryz.f97) (by kernel_rfl) (by kernel_rfl) (lkΓ_cons (g := 32) (s0 := place_Check_S) place_Check_ok (lkΓ_cons (g := 74) (s0 := place_kinds_S) place_kinds_ok lkΓ_nil)) (by decide +kernel) (by decide +kernel) (fun _ _ _ => rfl) place_Field_cuts (fun x => place_Field_run  x), bodied_of Tryz.func97 (by decide +kernel) (by decide +kernel)⟩

theorem chain_where_ok : SigOk Tryz.prog 76 chain_where_S ∧ Bodied Tryz.prog 76 :=
  ⟨fn_sound (s := chain_where_S) (T := []) (Λ := fun _ _ _ _ => none) 0 Tryz.func76 (c := bodyOf Tryz.f76) (by kernel_rfl) (by kernel_rfl) (lkΓ_cons (g := 34) (s0 := place_Size_S) place_Size_ok (lkΓ_cons (g := 42) (s0 := tag_Unpack_S) tag_Unpack_ok (lkΓ_cons (g := 97) (s0 := place_Field_S) place_Field_ok lkΓ_nil))) (by decide +kernel) (by decide +kernel) (fun _ _ _ => rfl) chain_where_cuts (fun x => chain_where_run  x), bodied_of Tryz.func76 (by decide +kernel) (by decide +kernel)⟩

theorem chain_Field_ok : SigOk Tryz.prog 38 chain_Field_S ∧ Bodied Tryz.prog 38 :=
  ⟨fn_sound (s := chain_Field_S) (T := []) (Λ := fun _ _ _ _ => none) 0 Tryz.func38 (c := bodyOf Tryz.f38) (by kernel_rfl) (by kernel_rfl) (lkΓ_cons (g := 39) (s0 := mem_Load_S) mem_Load_ok (lkΓ_cons (g := 76) (s0 := chain_where_S) chain_where_ok lkΓ_nil)) (by decide +kernel) (by decide +kernel) (fun _ _ _ => rfl) chain_Field_cuts (fun x => chain_Field_run  x), bodied_of Tryz.func38 (by decide +kernel) (by decide +kernel)⟩

theorem mem_Store_ok : SigOk Tryz.prog 41 mem_Store_S ∧ Bodied Tryz.prog 41 :=
  ⟨fn_sound (s := mem_Store_S) (T := []) (Λ := fun _ _ _ _ => none) 0 Tryz.func41 (c := bodyOf Tryz.f41) (by kernel_rfl) (by kernel_rfl) (lkΓ_cons (g := 77) (s0 := mem_in_S) mem_in_ok (lkΓ_cons (g := 78) (s0 := slices_Clone_S) slices_Clone_ok lkΓ_nil)) (by decide +kernel) (by decide +kernel) (fun _ _ _ => rfl) mem_Store_cuts (fun x => mem_Store_run  x), bodied_of Tryz.func41 (by decide +kernel) (by decide +kernel)⟩

theorem chain_Put_ok : SigOk Tryz.prog 40 chain_Put_S ∧ Bodied Tryz.prog 40 :=
  ⟨fn_sound (s := chain_Put_S) (T := []) (Λ := fun _ _ _ _ => none) 0 Tryz.func40 (c := bodyOf Tryz.f40) (by kernel_rfl) (by kernel_rfl) (lkΓ_cons (g := 41) (s0 := mem_Store_S) mem_Store_ok (lkΓ_cons (g := 76) (s0 := chain_where_S) chain_where_ok lkΓ_nil)) (by decide +kernel) (by decide +kernel) (fun _ _ _ => rfl) chain_Put_cuts (fun x => chain_Put_run  x), bodied_of Tryz.func40 (by decide +kernel) (by decide +kernel)⟩

theorem ask_words_ok : SigOk Tryz.prog 16 ask_words_S ∧ Bodied Tryz.prog 16 :=
  ⟨fn_sound (s := ask_words_S) (T := []) (Λ := fun _ _ _ _ => none) 0 Tryz.func16 (c := bodyOf Tryz.f16) (by kernel_rfl) (by kernel_rfl) (lkΓ_cons (g := 38) (s0 := chain_Field_S) chain_Field_ok (lkΓ_cons (g := 39) (s0 := mem_Load_S) mem_Load_ok (lkΓ_cons (g := 40) (s0 := chain_Put_S) chain_Put_ok (lkΓ_cons (g := 41) (s0 := mem_Store_S) mem_Store_ok lkΓ_nil)))) (by decide +kernel) (by decide +kernel) (fun _ _ _ => rfl) ask_words_cuts (fun x => ask_words_run  x), bodied_of Tryz.func16 (by decide +kernel) (by decide +kernel)⟩

theorem arena_may_ok : SigOk Tryz.prog 79 arena_may_S ∧ Bodied Tryz.prog 79 :=
  ⟨fn_sound (s := arena_may_S) (T := []) (Λ := fun _ _ _ _ => none) 0 Tryz.func79 (c := bodyOf Tryz.f79) (by kernel_rfl) (by kernel_rfl) (lkΓ_cons (g := 33) (s0 := arena_Check_S) arena_Check_ok lkΓ_nil) (by decide +kernel) (by decide +kernel) (fun _ _ _ => rfl) arena_may_cuts (fun x => arena_may_run  x), bodied_of Tryz.func79 (by decide +kernel) (by decide +kernel)⟩

theorem arena_Gen_ok : SigOk Tryz.prog 43 arena_Gen_S ∧ Bodied Tryz.prog 43 :=
  ⟨fn_sound (s := arena_Gen_S) (T := []) (Λ := fun _ _ _ _ => none) 0 Tryz.func43 (c := bodyOf Tryz.f43) (by kernel_rfl) (by kernel_rfl) (lkΓ_cons (g := 42) (s0 := tag_Unpack_S) tag_Unpack_ok (lkΓ_cons (g := 79) (s0 := arena_may_S) arena_may_ok lkΓ_nil)) (by decide +kernel) (by decide +kernel) (fun _ _ _ => rfl) arena_Gen_cuts (fun x => arena_Gen_run  x), bodied_of Tryz.func43 (by decide +kernel) (by decide +kernel)⟩

theorem ask_touch_ok : SigOk Tryz.prog 17 ask_touch_S ∧ Bodied Tryz.prog 17 :=
  ⟨fn_sound (s := ask_touch_S) (T := []) (Λ := fun _ _ _ _ => none) 0 Tryz.func17 (c := bodyOf Tryz.f17) (by kernel_rfl) (by kernel_rfl) (lkΓ_cons (g := 42) (s0 := tag_Unpack_S) tag_Unpack_ok (lkΓ_cons (g := 43) (s0 := arena_Gen_S) arena_Gen_ok lkΓ_nil)) (by decide +kernel) (by decide +kernel) (fun _ _ _ => rfl) ask_touch_cuts (fun x => ask_touch_run  x), bodied_of Tryz.func17 (by decide +kernel) (by decide +kernel)⟩

theorem latch_Try_ok : SigOk Tryz.prog 44 latch_Try_S ∧ Bodied Tryz.prog 44 :=
  ⟨fn_sound (s := latch_Try_S) (T := []) (Λ := fun _ _ _ _ => none) 0 Tryz.func44 (c := bodyOf Tryz.f44) (by kernel_rfl) (by kernel_rfl) (lkΓ_cons (g := 31) (s0 := latch_Held_S) latch_Held_ok (lkΓ_cons (g := 37) (s0 := latch_Check_S) latch_Check_ok lkΓ_nil)) (by decide +kernel) (by decide +kernel) (fun _ _ _ => rfl) latch_Try_cuts (fun x => latch_Try_run  x), bodied_of Tryz.func44 (by decide +kernel) (by decide +kernel)⟩

theorem ask_with_ok : SigOk Tryz.prog 45 ask_with_S ∧ Bodied Tryz.prog 45 :=
  ⟨fn_sound (s := ask_with_S) (T := []) (Λ := fun _ _ _ _ => none) 0 Tryz.func45 (c := bodyOf Tryz.f45) (by kernel_rfl) (by kernel_rfl) (lkΓ_cons (g := 78) (s0 := slices_Clone_S) slices_Clone_ok lkΓ_nil) (by decide +kernel) (by decide +kernel) (fun _ _ _ => rfl) ask_with_cuts (fun x => ask_with_run  x), bodied_of Tryz.func45 (by decide +kernel) (by decide +kernel)⟩

theorem latch_Free_ok : SigOk Tryz.prog 46 latch_Free_S ∧ Bodied Tryz.prog 46 :=
  ⟨fn_sound (s := latch_Free_S) (T := []) (Λ := fun _ _ _ _ => none) 0 Tryz.func46 (c := bodyOf Tryz.f46) (by kernel_rfl) (by kernel_rfl) (lkΓ_cons (g := 31) (s0 := latch_Held_S) latch_Held_ok (lkΓ_cons (g := 37) (s0 := latch_Check_S) latch_Check_ok lkΓ_nil)) (by decide +kernel) (by decide +kernel) (fun _ _ _ => rfl) latch_Free_cuts (fun x => latch_Free_run  x), bodied_of Tryz.func46 (by decide +kernel) (by decide +kernel)⟩

theorem ask_latches_ok : SigOk Tryz.prog 18 ask_latches_S ∧ Bodied Tryz.prog 18 :=
  ⟨fn_sound (s := ask_latches_S) (T := []) (Λ := fun _ _ _ _ => none) 0 Tryz.func18 (c := bodyOf Tryz.f18) (by kernel_rfl) (by kernel_rfl) (lkΓ_cons (g := 30) (s0 := ask_has_S) ask_has_ok (lkΓ_cons (g := 44) (s0 := latch_Try_S) latch_Try_ok (lkΓ_cons (g := 45) (s0 := ask_with_S) ask_with_ok (lkΓ_cons (g := 46) (s0 := latch_Free_S) latch_Free_ok lkΓ_nil)))) (by decide +kernel) (by decide +kernel) (fun _ _ _ => rfl) ask_latches_cuts (fun x => ask_latches_run  x), bodied_of Tryz.func18 (by decide +kernel) (by decide +kernel)⟩

theorem era_pinned_ok : SigOk Tryz.prog 98 era_pinned_S ∧ Bodied Tryz.prog 98 :=
  ⟨fn_sound (s := era_pinned_S) (T := []) (Λ := fun _ _ _ _ => none) 0 Tryz.func98 (c := bodyOf Tryz.f98) (by kernel_rfl) (by kernel_rfl) (lkΓ_cons (g := 73) (s0 := era_Check_S) era_Check_ok lkΓ_nil) (by decide +kernel) (by decide +kernel) (fun _ _ _ => rfl) era_pinned_cuts (fun x => era_pinned_run  x), bodied_of Tryz.func98 (by decide +kernel) (by decide +kernel)⟩

theorem era_with_ok : SigOk Tryz.prog 99 era_with_S ∧ Bodied Tryz.prog 99 :=
  ⟨fn_sound (s := era_with_S) (T := []) (Λ := fun _ _ _ _ => none) 0 Tryz.func99 (c := bodyOf Tryz.f99) (by kernel_rfl) (by kernel_rfl) (lkΓ_cons (g := 78) (s0 := slices_Clone_S) slices_Clone_ok lkΓ_nil) (by decide +kernel) (by decide +kernel) (fun _ _ _ => rfl) era_with_cuts (fun x => era_with_run  x), bodied_of Tryz.func99 (by decide +kernel) (by decide +kernel)⟩

theorem era_Pin_ok : SigOk Tryz.prog 80 era_Pin_S ∧ Bodied Tryz.prog 80 :=
  ⟨fn_sound (s := era_Pin_S) (T := []) (Λ := fun _ _ _ _ => none) 0 Tryz.func80 (c := bodyOf Tryz.f80) (by kernel_rfl) (by kernel_rfl) (lkΓ_cons (g := 98) (s0 := era_pinned_S) era_pinned_ok (lkΓ_cons (g := 99) (s0 := era_with_S) era_with_ok lkΓ_nil)) (by decide +kernel) (by decide +kernel) (fun _ _ _ => rfl) era_Pin_cuts (fun x => era_Pin_run  x), bodied_of Tryz.func80 (by decide +kernel) (by decide +kernel)⟩

theorem arena_Pin_ok : SigOk Tryz.prog 47 arena_Pin_S ∧ Bodied Tryz.prog 47 :=
  ⟨fn_sound (s := arena_Pin_S) (T := []) (Λ := fun _ _ _ _ => none) 0 Tryz.func47 (c := bodyOf Tryz.f47) (by kernel_rfl) (by kernel_rfl) (lkΓ_cons (g := 79) (s0 := arena_may_S) arena_may_ok (lkΓ_cons (g := 80) (s0 := era_Pin_S) era_Pin_ok lkΓ_nil)) (by decide +kernel) (by decide +kernel) (fun _ _ _ => rfl) arena_Pin_cuts (fun x => arena_Pin_run  x), bodied_of Tryz.func47 (by decide +kernel) (by decide +kernel)⟩

theorem era_Unpin_ok : SigOk Tryz.prog 81 era_Unpin_S ∧ Bodied Tryz.prog 81 :=
  ⟨fn_sound (s := era_Unpin_S) (T := []) (Λ := fun _ _ _ _ => none) 0 Tryz.func81 (c := bodyOf Tryz.f81) (by kernel_rfl) (by kernel_rfl) (lkΓ_cons (g := 98) (s0 := era_pinned_S) era_pinned_ok (lkΓ_cons (g := 99) (s0 := era_with_S) era_with_ok lkΓ_nil)) (by decide +kernel) (by decide +kernel) (fun _ _ _ => rfl) era_Unpin_cuts (fun x => era_Unpin_run  x), bodied_of Tryz.func81 (by decide +kernel) (by decide +kernel)⟩

theorem era_Turn_1_ok : SigOk Tryz.prog 113 era_Turn_1_S ∧ Bodied Tryz.prog 113 :=
  ⟨fn_sound (s := era_Turn_1_S) (T := []) (Λ := fun _ _ _ _ => none) 0 Tryz.func113 (c := bodyOf Tryz.f113) (by kernel_rfl) (by kernel_rfl) lkΓ_nil (by decide +kernel) (by decide +kernel) (fun _ _ _ => rfl) era_Turn_1_cuts (fun x => era_Turn_1_run  x), bodied_of Tryz.func113 (by decide +kernel) (by decide +kernel)⟩

theorem slices_IndexFunc_era_Turn_1_ok : SigOk Tryz.prog 75 slices_IndexFunc_era_Turn_1_S ∧ Bodied Tryz.prog 75 :=
  ⟨fn_sound (s := slices_IndexFunc_era_Turn_1_S) (T := [(6, [0, 1, 7, 8])]) (Λ := slices_IndexFunc_era_Turn_1_Λ) 2000000 Tryz.func75 (c := bodyOf Tryz.f75) (by kernel_rfl) (by kernel_rfl) (lkΓ_cons (g := 113) (s0 := era_Turn_1_S) era_Turn_1_ok lkΓ_nil) (by decide +kernel) (by decide +kernel) slices_IndexFunc_era_Turn_1_Λ0 slices_IndexFunc_era_Turn_1_cuts (fun x => slices_IndexFunc_era_Turn_1_run 2000000 x), bodied_of Tryz.func75 (by decide +kernel) (by decide +kernel)⟩

theorem slices_ContainsFunc_era_Turn_1_ok : SigOk Tryz.prog 35 slices_ContainsFunc_era_Turn_1_S ∧ Bodied Tryz.prog 35 :=
  ⟨fn_sound (s := slices_ContainsFunc_era_Turn_1_S) (T := []) (Λ := fun _ _ _ _ => none) 0 Tryz.func35 (c := bodyOf Tryz.f35) (by kernel_rfl) (by kernel_rfl) (lkΓ_cons (g := 114000075) (s0 := slices_IndexFunc_era_Turn_1_S) slices_IndexFunc_era_Turn_1_ok lkΓ_nil) (by decide +kernel) (by decide +kernel) (fun _ _ _ => rfl) slices_ContainsFunc_era_Turn_1_cuts (fun x => slices_ContainsFunc_era_Turn_1_run  x), bodied_of Tryz.func35 (by decide +kernel) (by decide +kernel)⟩

theorem era_Turn_ok : SigOk Tryz.prog 100 era_Turn_S ∧ Bodied Tryz.prog 100 :=
  ⟨fn_sound (s := era_Turn_S) (T := []) (Λ := fun _ _ _ _ => none) 0 Tryz.func100 (c := bodyOf Tryz.f100) (by kernel_rfl) (by kernel_rfl) (lkΓ_cons (g := 73) (s0 := era_Check_S) era_Check_ok (lkΓ_cons (g := 78) (s0 := slices_Clone_S) slices_Clone_ok (lkΓ_cons (g := 114000035) (s0 := slices_ContainsFunc_era_Turn_1_S) slices_ContainsFunc_era_Turn_1_ok lkΓ_nil))) (by decide +kernel) (by decide +kernel) (fun _ _ _ => rfl) era_Turn_cuts (fun x => era_Turn_run  x), bodied_of Tryz.func100 (by decide +kernel) (by decide +kernel)⟩

theorem pool_own_ok : SigOk Tryz.prog 103 pool_own_S ∧ Bodied Tryz.prog 103 :=
  ⟨fn_sound (s := pool_own_S) (T := []) (Λ := fun _ _ _ _ => none) 0 Tryz.func103 (c := bodyOf Tryz.f103) (by kernel_rfl) (by kernel_rfl) (lkΓ_cons (g := 78) (s0 := slices_Clone_S) slices_Clone_ok lkΓ_nil) (by decide +kernel) (by decide +kernel) (fun _ _ _ => rfl) pool_own_cuts (fun x => pool_own_run  x), bodied_of Tryz.func103 (by decide +kernel) (by decide +kernel)⟩

theorem pool_Reclaim_ok : SigOk Tryz.prog 101 pool_Reclaim_S ∧ Bodied Tryz.prog 101 :=
  ⟨fn_sound (s := pool_Reclaim_S) (T := [(14, [1, 2, 4, 6, 19, 20, 21])]) (Λ := pool_Reclaim_Λ) 2000000 Tryz.func101 (c := bodyOf Tryz.f101) (by kernel_rfl) (by kernel_rfl) (lkΓ_cons (g := 72) (s0 := pool_Check_S) pool_Check_ok (lkΓ_cons (g := 103) (s0 := pool_own_S) pool_own_ok lkΓ_nil)) (by decide +kernel) (by decide +kernel) pool_Reclaim_Λ0 pool_Reclaim_cuts (fun x => pool_Reclaim_run 2000000 x), bodied_of Tryz.func101 (by decide +kernel) (by decide +kernel)⟩

theorem era_Safe_ok : SigOk Tryz.prog 102 era_Safe_S ∧ Bodied Tryz.prog 102 :=
  ⟨fn_sound (s := era_Safe_S) (T := []) (Λ := fun _ _ _ _ => none) 0 Tryz.func102 (c := bodyOf Tryz.f102) (by kernel_rfl) (by kernel_rfl) (lkΓ_cons (g := 73) (s0 := era_Check_S) era_Check_ok lkΓ_nil) (by decide +kernel) (by decide +kernel) (fun _ _ _ => rfl) era_Safe_cuts (fun x => era_Safe_run  x), bodied_of Tryz.func102 (by decide +kernel) (by decide +kernel)⟩

theorem arena_Turn_ok : SigOk Tryz.prog 82 arena_Turn_S ∧ Bodied Tryz.prog 82 :=
  ⟨fn_sound (s := arena_Turn_S) (T := [(16, [1, 2, 4, 5, 22, 23])]) (Λ := arena_Turn_Λ) 2000000 Tryz.func82 (c := bodyOf Tryz.f82) (by kernel_rfl) (by kernel_rfl) (lkΓ_cons (g := 79) (s0 := arena_may_S) arena_may_ok (lkΓ_cons (g := 100) (s0 := era_Turn_S) era_Turn_ok (lkΓ_cons (g := 101) (s0 := pool_Reclaim_S) pool_Reclaim_ok (lkΓ_cons (g := 102) (s0 := era_Safe_S) era_Safe_ok lkΓ_nil)))) (by decide +kernel) (by decide +kernel) arena_Turn_Λ0 arena_Turn_cuts (fun x => arena_Turn_run 2000000 x), bodied_of Tryz.func82 (by decide +kernel) (by decide +kernel)⟩

theorem arena_End_ok : SigOk Tryz.prog 48 arena_End_S ∧ Bodied Tryz.prog 48 :=
  ⟨fn_sound (s := arena_End_S) (T := []) (Λ := fun _ _ _ _ => none) 0 Tryz.func48 (c := bodyOf Tryz.f48) (by kernel_rfl) (by kernel_rfl) (lkΓ_cons (g := 79) (s0 := arena_may_S) arena_may_ok (lkΓ_cons (g := 81) (s0 := era_Unpin_S) era_Unpin_ok (lkΓ_cons (g := 82) (s0 := arena_Turn_S) arena_Turn_ok lkΓ_nil))) (by decide +kernel) (by decide +kernel) (fun _ _ _ => rfl) arena_End_cuts (fun x => arena_End_run  x), bodied_of Tryz.func48 (by decide +kernel) (by decide +kernel)⟩

theorem pool_Retire_ok : SigOk Tryz.prog 83 pool_Retire_S ∧ Bodied Tryz.prog 83 :=
  ⟨fn_sound (s := pool_Retire_S) (T := []) (Λ := fun _ _ _ _ => none) 0 Tryz.func83 (c := bodyOf Tryz.f83) (by kernel_rfl) (by kernel_rfl) (lkΓ_cons (g := 42) (s0 := tag_Unpack_S) tag_Unpack_ok (lkΓ_cons (g := 72) (s0 := pool_Check_S) pool_Check_ok (lkΓ_cons (g := 103) (s0 := pool_own_S) pool_own_ok lkΓ_nil))) (by decide +kernel) (by decide +kernel) (fun _ _ _ => rfl) pool_Retire_cuts (fun x => pool_Retire_run  x), bodied_of Tryz.func83 (by decide +kernel) (by decide +kernel)⟩

theorem arena_Retire_ok : SigOk Tryz.prog 49 arena_Retire_S ∧ Bodied Tryz.prog 49 :=
  ⟨fn_sound (s := arena_Retire_S) (T := []) (Λ := fun _ _ _ _ => none) 0 Tryz.func49 (c := bodyOf Tryz.f49) (by kernel_rfl) (by kernel_rfl) (lkΓ_cons (g := 79) (s0 := arena_may_S) arena_may_ok (lkΓ_cons (g := 83) (s0 := pool_Retire_S) pool_Retire_ok lkΓ_nil)) (by decide +kernel) (by decide +kernel) (fun _ _ _ => rfl) arena_Retire_cuts (fun x => arena_Retire_run  x), bodied_of Tryz.func49 (by decide +kernel) (by decide +kernel)⟩

theorem tag_Pack_ok : SigOk Tryz.prog 104 tag_Pack_S ∧ Bodied Tryz.prog 104 :=
  ⟨fn_sound (s := tag_Pack_S) (T := []) (Λ := fun _ _ _ _ => none) 0 Tryz.func104 (c := bodyOf Tryz.f104) (by kernel_rfl) (by kernel_rfl) lkΓ_nil (by decide +kernel) (by decide +kernel) (fun _ _ _ => rfl) tag_Pack_cuts (fun x => tag_Pack_run  x), bodied_of Tryz.func104 (by decide +kernel) (by decide +kernel)⟩

theorem pool_Take_ok : SigOk Tryz.prog 84 pool_Take_S ∧ Bodied Tryz.prog 84 :=
  ⟨fn_sound (s := pool_Take_S) (T := []) (Λ := fun _ _ _ _ => none) 0 Tryz.func84 (c := bodyOf Tryz.f84) (by kernel_rfl) (by kernel_rfl) (lkΓ_cons (g := 72) (s0 := pool_Check_S) pool_Check_ok (lkΓ_cons (g := 103) (s0 := pool_own_S) pool_own_ok (lkΓ_cons (g := 104) (s0 := tag_Pack_S) tag_Pack_ok lkΓ_nil))) (by decide +kernel) (by decide +kernel) (fun _ _ _ => rfl) pool_Take_cuts (fun x => pool_Take_run  x), bodied_of Tryz.func84 (by decide +kernel) (by decide +kernel)⟩

theorem arena_Take_ok : SigOk Tryz.prog 50 arena_Take_S ∧ Bodied Tryz.prog 50 :=
  ⟨fn_sound (s := arena_Take_S) (T := []) (Λ := fun _ _ _ _ => none) 0 Tryz.func50 (c := bodyOf Tryz.f50) (by kernel_rfl) (by kernel_rfl) (lkΓ_cons (g := 79) (s0 := arena_may_S) arena_may_ok (lkΓ_cons (g := 84) (s0 := pool_Take_S) pool_Take_ok lkΓ_nil)) (by decide +kernel) (by decide +kernel) (fun _ _ _ => rfl) arena_Take_cuts (fun x => arena_Take_run  x), bodied_of Tryz.func50 (by decide +kernel) (by decide +kernel)⟩

theorem ask_records_ok : SigOk Tryz.prog 19 ask_records_S ∧ Bodied Tryz.prog 19 :=
  ⟨fn_sound (s := ask_records_S) (T := []) (Λ := fun _ _ _ _ => none) 0 Tryz.func19 (c := bodyOf Tryz.f19) (by kernel_rfl) (by kernel_rfl) (lkΓ_cons (g := 47) (s0 := arena_Pin_S) arena_Pin_ok (lkΓ_cons (g := 48) (s0 := arena_End_S) arena_End_ok (lkΓ_cons (g := 49) (s0 := arena_Retire_S) arena_Retire_ok (lkΓ_cons (g := 50) (s0 := arena_Take_S) arena_Take_ok lkΓ_nil)))) (by decide +kernel) (by decide +kernel) (fun _ _ _ => rfl) ask_records_cuts (fun x => ask_records_run  x), bodied_of Tryz.func19 (by decide +kernel) (by decide +kernel)⟩

theorem ask_Do_ok : SigOk Tryz.prog 7 ask_Do_S ∧ Bodied Tryz.prog 7 :=
  ⟨fn_sound (s := ask_Do_S) (T := []) (Λ := fun _ _ _ _ => none) 0 Tryz.func7 (c := bodyOf Tryz.f7) (by kernel_rfl) (by kernel_rfl) (lkΓ_cons (g := 13) (s0 := ask_Waits_S) ask_Waits_ok (lkΓ_cons (g := 15) (s0 := shape_Check_S) shape_Check_ok (lkΓ_cons (g := 16) (s0 := ask_words_S) ask_words_ok (lkΓ_cons (g := 17) (s0 := ask_touch_S) ask_touch_ok (lkΓ_cons (g := 18) (s0 := ask_latches_S) ask_latches_ok (lkΓ_cons (g := 19) (s0 := ask_records_S) ask_records_ok lkΓ_nil)))))) (by decide +kernel) (by decide +kernel) (fun _ _ _ => rfl) ask_Do_cuts (fun x => ask_Do_run  x), bodied_of Tryz.func7 (by decide +kernel) (by decide +kernel)⟩

theorem math_bits_Mul32_ok : SigOk Tryz.prog 114 math_bits_Mul32_S ∧ Bodied Tryz.prog 114 :=
  ⟨fn_sound (s := math_bits_Mul32_S) (T := []) (Λ := fun _ _ _ _ => none) 0 Tryz.func114 (c := bodyOf Tryz.f114) (by kernel_rfl) (by kernel_rfl) lkΓ_nil (by decide +kernel) (by decide +kernel) (fun _ _ _ => rfl) math_bits_Mul32_cuts (fun x => math_bits_Mul32_run  x), bodied_of Tryz.func114 (by decide +kernel) (by decide +kernel)⟩

theorem math_bits_Mul64_ok : SigOk Tryz.prog 115 math_bits_Mul64_S ∧ Bodied Tryz.prog 115 :=
  ⟨fn_sound (s := math_bits_Mul64_S) (T := []) (Λ := fun _ _ _ _ => none) 0 Tryz.func115 (c := bodyOf Tryz.f115) (by kernel_rfl) (by kernel_rfl) lkΓ_nil (by decide +kernel) (by decide +kernel) (fun _ _ _ => rfl) math_bits_Mul64_cuts (fun x => math_bits_Mul64_run  x), bodied_of Tryz.func115 (by decide +kernel) (by decide +kernel)⟩

theorem math_bits_Mul_ok : SigOk Tryz.prog 111 math_bits_Mul_S ∧ Bodied Tryz.prog 111 :=
  ⟨fn_sound (s := math_bits_Mul_S) (T := []) (Λ := fun _ _ _ _ => none) 0 Tryz.func111 (c := bodyOf Tryz.f111) (by kernel_rfl) (by kernel_rfl) (lkΓ_cons (g := 114) (s0 := math_bits_Mul32_S) math_bits_Mul32_ok (lkΓ_cons (g := 115) (s0 := math_bits_Mul64_S) math_bits_Mul64_ok lkΓ_nil)) (by decide +kernel) (by decide +kernel) (fun _ _ _ => rfl) math_bits_Mul_cuts (fun x => math_bits_Mul_run  x), bodied_of Tryz.func111 (by decide +kernel) (by decide +kernel)⟩

theorem slices_Repeat_ok : SigOk Tryz.prog 94 slices_Repeat_S ∧ Bodied Tryz.prog 94 :=
  ⟨fn_sound (s := slices_Repeat_S) (T := [(18, [7, 8])]) (Λ := slices_Repeat_Λ) 2000000 Tryz.func94 (c := bodyOf Tryz.f94) (by kernel_rfl) (by kernel_rfl) (lkΓ_cons (g := 111) (s0 := math_bits_Mul_S) math_bits_Mul_ok (lkΓ_flag (s0 := flagS) lkΓ_nil)) (by decide +kernel) (by decide +kernel) slices_Repeat_Λ0 slices_Repeat_cuts (fun x => slices_Repeat_run 2000000 x), bodied_of Tryz.func94 (by decide +kernel) (by decide +kernel)⟩

theorem era_New_ok : SigOk Tryz.prog 69 era_New_S ∧ Bodied Tryz.prog 69 :=
  ⟨fn_sound (s := era_New_S) (T := []) (Λ := fun _ _ _ _ => none) 0 Tryz.func69 (c := bodyOf Tryz.f69) (by kernel_rfl) (by kernel_rfl) (lkΓ_cons (g := 94) (s0 := slices_Repeat_S) slices_Repeat_ok lkΓ_nil) (by decide +kernel) (by decide +kernel) (fun _ _ _ => rfl) era_New_cuts (fun x => era_New_run  x), bodied_of Tryz.func69 (by decide +kernel) (by decide +kernel)⟩

theorem pool_New_ok : SigOk Tryz.prog 70 pool_New_S ∧ Bodied Tryz.prog 70 :=
  ⟨fn_sound (s := pool_New_S) (T := [(12, [2, 4, 24, 25])]) (Λ := pool_New_Λ) 2000000 Tryz.func70 (c := bodyOf Tryz.f70) (by kernel_rfl) (by kernel_rfl) lkΓ_nil (by decide +kernel) (by decide +kernel) pool_New_Λ0 pool_New_cuts (fun x => pool_New_run 2000000 x), bodied_of Tryz.func70 (by decide +kernel) (by decide +kernel)⟩

theorem arena_New_ok : SigOk Tryz.prog 28 arena_New_S ∧ Bodied Tryz.prog 28 :=
  ⟨fn_sound (s := arena_New_S) (T := [(20, [4, 9, 35, 36])]) (Λ := arena_New_Λ) 2000000 Tryz.func28 (c := bodyOf Tryz.f28) (by kernel_rfl) (by kernel_rfl) (lkΓ_cons (g := 32) (s0 := place_Check_S) place_Check_ok (lkΓ_cons (g := 69) (s0 := era_New_S) era_New_ok (lkΓ_cons (g := 70) (s0 := pool_New_S) pool_New_ok lkΓ_nil))) (by decide +kernel) (by decide +kernel) arena_New_Λ0 arena_New_cuts (fun x => arena_New_run 2000000 x), bodied_of Tryz.func28 (by decide +kernel) (by decide +kernel)⟩

theorem mem_New_ok : SigOk Tryz.prog 71 mem_New_S ∧ Bodied Tryz.prog 71 :=
  ⟨fn_sound (s := mem_New_S) (T := []) (Λ := fun _ _ _ _ => none) 0 Tryz.func71 (c := bodyOf Tryz.f71) (by kernel_rfl) (by kernel_rfl) lkΓ_nil (by decide +kernel) (by decide +kernel) (fun _ _ _ => rfl) mem_New_cuts (fun x => mem_New_run  x), bodied_of Tryz.func71 (by decide +kernel) (by decide +kernel)⟩

theorem place_New_ok : SigOk Tryz.prog 29 place_New_S ∧ Bodied Tryz.prog 29 :=
  ⟨fn_sound (s := place_New_S) (T := []) (Λ := fun _ _ _ _ => none) 0 Tryz.func29 (c := bodyOf Tryz.f29) (by kernel_rfl) (by kernel_rfl) (lkΓ_cons (g := 32) (s0 := place_Check_S) place_Check_ok (lkΓ_cons (g := 34) (s0 := place_Size_S) place_Size_ok (lkΓ_cons (g := 71) (s0 := mem_New_S) mem_New_ok lkΓ_nil))) (by decide +kernel) (by decide +kernel) (fun _ _ _ => rfl) place_New_cuts (fun x => place_New_run  x), bodied_of Tryz.func29 (by decide +kernel) (by decide +kernel)⟩

theorem ask_New_ok : SigOk Tryz.prog 11 ask_New_S ∧ Bodied Tryz.prog 11 :=
  ⟨fn_sound (s := ask_New_S) (T := []) (Λ := fun _ _ _ _ => none) 0 Tryz.func11 (c := bodyOf Tryz.f11) (by kernel_rfl) (by kernel_rfl) (lkΓ_cons (g := 28) (s0 := arena_New_S) arena_New_ok (lkΓ_cons (g := 29) (s0 := place_New_S) place_New_ok lkΓ_nil)) (by decide +kernel) (by decide +kernel) (fun _ _ _ => rfl) ask_New_cuts (fun x => ask_New_run  x), bodied_of Tryz.func11 (by decide +kernel) (by decide +kernel)⟩

theorem tendrillaw16_plain_ok : SigOk Tryz.prog 12 tendrillaw16_plain_S ∧ Bodied Tryz.prog 12 :=
  ⟨fn_sound (s := tendrillaw16_plain_S) (T := []) (Λ := fun _ _ _ _ => none) 0 Tryz.func12 (c := bodyOf Tryz.f12) (by kernel_rfl) (by kernel_rfl) lkΓ_nil (by decide +kernel) (by decide +kernel) (fun _ _ _ => rfl) tendrillaw16_plain_cuts (fun x => tendrillaw16_plain_run  x), bodied_of Tryz.func12 (by decide +kernel) (by decide +kernel)⟩

theorem tendrillaw16_live_ok : SigOk Tryz.prog 4 tendrillaw16_live_S ∧ Bodied Tryz.prog 4 :=
  ⟨fn_sound (s := tendrillaw16_live_S) (T := []) (Λ := fun _ _ _ _ => none) 0 Tryz.func4 (c := bodyOf Tryz.f4) (by kernel_rfl) (by kernel_rfl) (lkΓ_cons (g := 7) (s0 := ask_Do_S) ask_Do_ok (lkΓ_cons (g := 11) (s0 := ask_New_S) ask_New_ok (lkΓ_cons (g := 12) (s0 := tendrillaw16_plain_S) tendrillaw16_plain_ok (lkΓ_cons (g := 13) (s0 := ask_Waits_S) ask_Waits_ok lkΓ_nil)))) (by decide +kernel) (by decide +kernel) (fun _ _ _ => rfl) tendrillaw16_live_cuts (fun x => tendrillaw16_live_run  x), bodied_of Tryz.func4 (by decide +kernel) (by decide +kernel)⟩

theorem tendrilref05_Few_ok : SigOk Tryz.prog 14 tendrilref05_Few_S ∧ Bodied Tryz.prog 14 :=
  ⟨fn_sound (s := tendrilref05_Few_S) (T := []) (Λ := fun _ _ _ _ => none) 0 Tryz.func14 (c := bodyOf Tryz.f14) (by kernel_rfl) (by kernel_rfl) lkΓ_nil (by decide +kernel) (by decide +kernel) (fun _ _ _ => rfl) tendrilref05_Few_cuts (fun x => tendrilref05_Few_run  x), bodied_of Tryz.func14 (by decide +kernel) (by decide +kernel)⟩

theorem tendrilref07_Few_ok : SigOk Tryz.prog 5 tendrilref07_Few_S ∧ Bodied Tryz.prog 5 :=
  ⟨fn_sound (s := tendrilref07_Few_S) (T := [(6, [1, 6, 7])]) (Λ := tendrilref07_Few_Λ) 2000000 Tryz.func5 (c := bodyOf Tryz.f5) (by kernel_rfl) (by kernel_rfl) (lkΓ_cons (g := 14) (s0 := tendrilref05_Few_S) tendrilref05_Few_ok lkΓ_nil) (by decide +kernel) (by decide +kernel) tendrilref07_Few_Λ0 tendrilref07_Few_cuts (fun x => tendrilref07_Few_run 2000000 x), bodied_of Tryz.func5 (by decide +kernel) (by decide +kernel)⟩

theorem tendrilref02_Copy_ok : SigOk Tryz.prog 6 tendrilref02_Copy_S ∧ Bodied Tryz.prog 6 :=
  ⟨fn_sound (s := tendrilref02_Copy_S) (T := []) (Λ := fun _ _ _ _ => none) 0 Tryz.func6 (c := bodyOf Tryz.f6) (by kernel_rfl) (by kernel_rfl) lkΓ_nil (by decide +kernel) (by decide +kernel) (fun _ _ _ => rfl) tendrilref02_Copy_cuts (fun x => tendrilref02_Copy_run  x), bodied_of Tryz.func6 (by decide +kernel) (by decide +kernel)⟩

theorem tendrilref03_Check_ok : SigOk Tryz.prog 51 tendrilref03_Check_S ∧ Bodied Tryz.prog 51 :=
  ⟨fn_sound (s := tendrilref03_Check_S) (T := [(6, [15, 16, 17])]) (Λ := tendrilref03_Check_Λ) 2000000 Tryz.func51 (c := bodyOf Tryz.f51) (by kernel_rfl) (by kernel_rfl) lkΓ_nil (by decide +kernel) (by decide +kernel) tendrilref03_Check_Λ0 tendrilref03_Check_cuts (fun x => tendrilref03_Check_run 2000000 x), bodied_of Tryz.func51 (by decide +kernel) (by decide +kernel)⟩

theorem tendrilref05_Check_ok : SigOk Tryz.prog 85 tendrilref05_Check_S ∧ Bodied Tryz.prog 85 :=
  ⟨fn_sound (s := tendrilref05_Check_S) (T := [(26, [1, 4, 5, 6, 32, 33, 83, 84, 85]), (14, [1, 4, 32, 33])]) (Λ := tendrilref05_Check_Λ) 2000000 Tryz.func85 (c := bodyOf Tryz.f85) (by kernel_rfl) (by kernel_rfl) lkΓ_nil (by decide +kernel) (by decide +kernel) tendrilref05_Check_Λ0 tendrilref05_Check_cuts (fun x => tendrilref05_Check_run 2000000 x), bodied_of Tryz.func85 (by decide +kernel) (by decide +kernel)⟩

theorem tendrilref06_Check_ok : SigOk Tryz.prog 86 tendrilref06_Check_S ∧ Bodied Tryz.prog 86 :=
  ⟨fn_sound (s := tendrilref06_Check_S) (T := [(10, [1, 26, 27, 28])]) (Λ := tendrilref06_Check_Λ) 2000000 Tryz.func86 (c := bodyOf Tryz.f86) (by kernel_rfl) (by kernel_rfl) lkΓ_nil (by decide +kernel) (by decide +kernel) tendrilref06_Check_Λ0 tendrilref06_Check_cuts (fun x => tendrilref06_Check_run 2000000 x), bodied_of Tryz.func86 (by decide +kernel) (by decide +kernel)⟩

theorem tendrilref07_Check_ok : SigOk Tryz.prog 52 tendrilref07_Check_S ∧ Bodied Tryz.prog 52 :=
  ⟨fn_sound (s := tendrilref07_Check_S) (T := [(6, [1, 6, 7])]) (Λ := tendrilref07_Check_Λ) 2000000 Tryz.func52 (c := bodyOf Tryz.f52) (by kernel_rfl) (by kernel_rfl) (lkΓ_cons (g := 85) (s0 := tendrilref05_Check_S) tendrilref05_Check_ok (lkΓ_cons (g := 86) (s0 := tendrilref06_Check_S) tendrilref06_Check_ok lkΓ_nil)) (by decide +kernel) (by decide +kernel) tendrilref07_Check_Λ0 tendrilref07_Check_cuts (fun x => tendrilref07_Check_run 2000000 x), bodied_of Tryz.func52 (by decide +kernel) (by decide +kernel)⟩

theorem tendrilref03_Size_ok : SigOk Tryz.prog 53 tendrilref03_Size_S ∧ Bodied Tryz.prog 53 :=
  ⟨fn_sound (s := tendrilref03_Size_S) (T := []) (Λ := fun _ _ _ _ => none) 0 Tryz.func53 (c := bodyOf Tryz.f53) (by kernel_rfl) (by kernel_rfl) (lkΓ_cons (g := 51) (s0 := tendrilref03_Check_S) tendrilref03_Check_ok lkΓ_nil) (by decide +kernel) (by decide +kernel) (fun _ _ _ => rfl) tendrilref03_Size_cuts (fun x => tendrilref03_Size_run  x), bodied_of Tryz.func53 (by decide +kernel) (by decide +kernel)⟩

theorem tendrilref03_Cap_ok : SigOk Tryz.prog 54 tendrilref03_Cap_S ∧ Bodied Tryz.prog 54 :=
  ⟨fn_sound (s := tendrilref03_Cap_S) (T := []) (Λ := fun _ _ _ _ => none) 0 Tryz.func54 (c := bodyOf Tryz.f54) (by kernel_rfl) (by kernel_rfl) lkΓ_nil (by decide +kernel) (by decide +kernel) (fun _ _ _ => rfl) tendrilref03_Cap_cuts (fun x => tendrilref03_Cap_run  x), bodied_of Tryz.func54 (by decide +kernel) (by decide +kernel)⟩

theorem tendrilref15_Check_ok : SigOk Tryz.prog 20 tendrilref15_Check_S ∧ Bodied Tryz.prog 20 :=
  ⟨fn_sound (s := tendrilref15_Check_S) (T := [(24, [55, 56, 57]), (10, [2, 3, 35])]) (Λ := tendrilref15_Check_Λ) 2000000 Tryz.func20 (c := bodyOf Tryz.f20) (by kernel_rfl) (by kernel_rfl) (lkΓ_cons (g := 51) (s0 := tendrilref03_Check_S) tendrilref03_Check_ok (lkΓ_cons (g := 52) (s0 := tendrilref07_Check_S) tendrilref07_Check_ok (lkΓ_cons (g := 53) (s0 := tendrilref03_Size_S) tendrilref03_Size_ok (lkΓ_cons (g := 54) (s0 := tendrilref03_Cap_S) tendrilref03_Cap_ok lkΓ_nil)))) (by decide +kernel) (by decide +kernel) tendrilref15_Check_Λ0 tendrilref15_Check_cuts (fun x => tendrilref15_Check_run 2000000 x), bodied_of Tryz.func20 (by decide +kernel) (by decide +kernel)⟩

theorem tendrilref08_Check_ok : SigOk Tryz.prog 87 tendrilref08_Check_S ∧ Bodied Tryz.prog 87 :=
  ⟨fn_sound (s := tendrilref08_Check_S) (T := []) (Λ := fun _ _ _ _ => none) 0 Tryz.func87 (c := bodyOf Tryz.f87) (by kernel_rfl) (by kernel_rfl) lkΓ_nil (by decide +kernel) (by decide +kernel) (fun _ _ _ => rfl) tendrilref08_Check_cuts (fun x => tendrilref08_Check_run  x), bodied_of Tryz.func87 (by decide +kernel) (by decide +kernel)⟩

theorem tendrilref08_Held_ok : SigOk Tryz.prog 55 tendrilref08_Held_S ∧ Bodied Tryz.prog 55 :=
  ⟨fn_sound (s := tendrilref08_Held_S) (T := []) (Λ := fun _ _ _ _ => none) 0 Tryz.func55 (c := bodyOf Tryz.f55) (by kernel_rfl) (by kernel_rfl) (lkΓ_cons (g := 87) (s0 := tendrilref08_Check_S) tendrilref08_Check_ok lkΓ_nil) (by decide +kernel) (by decide +kernel) (fun _ _ _ => rfl) tendrilref08_Held_cuts (fun x => tendrilref08_Held_run  x), bodied_of Tryz.func55 (by decide +kernel) (by decide +kernel)⟩

theorem tendrilref16_Waits_ok : SigOk Tryz.prog 21 tendrilref16_Waits_S ∧ Bodied Tryz.prog 21 :=
  ⟨fn_sound (s := tendrilref16_Waits_S) (T := []) (Λ := fun _ _ _ _ => none) 0 Tryz.func21 (c := bodyOf Tryz.f21) (by kernel_rfl) (by kernel_rfl) (lkΓ_cons (g := 55) (s0 := tendrilref08_Held_S) tendrilref08_Held_ok lkΓ_nil) (by decide +kernel) (by decide +kernel) (fun _ _ _ => rfl) tendrilref16_Waits_cuts (fun x => tendrilref16_Waits_run  x), bodied_of Tryz.func21 (by decide +kernel) (by decide +kernel)⟩

theorem tendrilref16_word_ok : SigOk Tryz.prog 56 tendrilref16_word_S ∧ Bodied Tryz.prog 56 :=
  ⟨fn_sound (s := tendrilref16_word_S) (T := []) (Λ := fun _ _ _ _ => none) 0 Tryz.func56 (c := bodyOf Tryz.f56) (by kernel_rfl) (by kernel_rfl) lkΓ_nil (by decide +kernel) (by decide +kernel) (fun _ _ _ => rfl) tendrilref16_word_cuts (fun x => tendrilref16_word_run  x), bodied_of Tryz.func56 (by decide +kernel) (by decide +kernel)⟩

theorem tendrilref06_Pin_ok : SigOk Tryz.prog 88 tendrilref06_Pin_S ∧ Bodied Tryz.prog 88 :=
  ⟨fn_sound (s := tendrilref06_Pin_S) (T := []) (Λ := fun _ _ _ _ => none) 0 Tryz.func88 (c := bodyOf Tryz.f88) (by kernel_rfl) (by kernel_rfl) (lkΓ_cons (g := 6) (s0 := tendrilref02_Copy_S) tendrilref02_Copy_ok (lkΓ_cons (g := 86) (s0 := tendrilref06_Check_S) tendrilref06_Check_ok lkΓ_nil)) (by decide +kernel) (by decide +kernel) (fun _ _ _ => rfl) tendrilref06_Pin_cuts (fun x => tendrilref06_Pin_run  x), bodied_of Tryz.func88 (by decide +kernel) (by decide +kernel)⟩

theorem tendrilref07_Pin_ok : SigOk Tryz.prog 57 tendrilref07_Pin_S ∧ Bodied Tryz.prog 57 :=
  ⟨fn_sound (s := tendrilref07_Pin_S) (T := []) (Λ := fun _ _ _ _ => none) 0 Tryz.func57 (c := bodyOf Tryz.f57) (by kernel_rfl) (by kernel_rfl) (lkΓ_cons (g := 52) (s0 := tendrilref07_Check_S) tendrilref07_Check_ok (lkΓ_cons (g := 88) (s0 := tendrilref06_Pin_S) tendrilref06_Pin_ok lkΓ_nil)) (by decide +kernel) (by decide +kernel) (fun _ _ _ => rfl) tendrilref07_Pin_cuts (fun x => tendrilref07_Pin_run  x), bodied_of Tryz.func57 (by decide +kernel) (by decide +kernel)⟩

theorem tendrilref06_Unpin_ok : SigOk Tryz.prog 89 tendrilref06_Unpin_S ∧ Bodied Tryz.prog 89 :=
  ⟨fn_sound (s := tendrilref06_Unpin_S) (T := []) (Λ := fun _ _ _ _ => none) 0 Tryz.func89 (c := bodyOf Tryz.f89) (by kernel_rfl) (by kernel_rfl) (lkΓ_cons (g := 6) (s0 := tendrilref02_Copy_S) tendrilref02_Copy_ok (lkΓ_cons (g := 86) (s0 := tendrilref06_Check_S) tendrilref06_Check_ok lkΓ_nil)) (by decide +kernel) (by decide +kernel) (fun _ _ _ => rfl) tendrilref06_Unpin_cuts (fun x => tendrilref06_Unpin_run  x), bodied_of Tryz.func89 (by decide +kernel) (by decide +kernel)⟩

theorem tendrilref06_Turn_ok : SigOk Tryz.prog 105 tendrilref06_Turn_S ∧ Bodied Tryz.prog 105 :=
  ⟨fn_sound (s := tendrilref06_Turn_S) (T := [(12, [1, 2, 4, 18, 19, 20])]) (Λ := tendrilref06_Turn_Λ) 2000000 Tryz.func105 (c := bodyOf Tryz.f105) (by kernel_rfl) (by kernel_rfl) (lkΓ_cons (g := 6) (s0 := tendrilref02_Copy_S) tendrilref02_Copy_ok (lkΓ_cons (g := 86) (s0 := tendrilref06_Check_S) tendrilref06_Check_ok lkΓ_nil)) (by decide +kernel) (by decide +kernel) tendrilref06_Turn_Λ0 tendrilref06_Turn_cuts (fun x => tendrilref06_Turn_run 2000000 x), bodied_of Tryz.func105 (by decide +kernel) (by decide +kernel)⟩

theorem tendrilref05_Copy_ok : SigOk Tryz.prog 109 tendrilref05_Copy_S ∧ Bodied Tryz.prog 109 :=
  ⟨fn_sound (s := tendrilref05_Copy_S) (T := []) (Λ := fun _ _ _ _ => none) 0 Tryz.func109 (c := bodyOf Tryz.f109) (by kernel_rfl) (by kernel_rfl) (lkΓ_cons (g := 6) (s0 := tendrilref02_Copy_S) tendrilref02_Copy_ok lkΓ_nil) (by decide +kernel) (by decide +kernel) (fun _ _ _ => rfl) tendrilref05_Copy_cuts (fun x => tendrilref05_Copy_run  x), bodied_of Tryz.func109 (by decide +kernel) (by decide +kernel)⟩

theorem tendrilref05_Reclaim_ok : SigOk Tryz.prog 106 tendrilref05_Reclaim_S ∧ Bodied Tryz.prog 106 :=
  ⟨fn_sound (s := tendrilref05_Reclaim_S) (T := [(14, [1, 2, 4, 6, 7, 17, 18])]) (Λ := tendrilref05_Reclaim_Λ) 2000000 Tryz.func106 (c := bodyOf Tryz.f106) (by kernel_rfl) (by kernel_rfl) (lkΓ_cons (g := 85) (s0 := tendrilref05_Check_S) tendrilref05_Check_ok (lkΓ_cons (g := 109) (s0 := tendrilref05_Copy_S) tendrilref05_Copy_ok lkΓ_nil)) (by decide +kernel) (by decide +kernel) tendrilref05_Reclaim_Λ0 tendrilref05_Reclaim_cuts (fun x => tendrilref05_Reclaim_run 2000000 x), bodied_of Tryz.func106 (by decide +kernel) (by decide +kernel)⟩

theorem tendrilref06_Safe_ok : SigOk Tryz.prog 107 tendrilref06_Safe_S ∧ Bodied Tryz.prog 107 :=
  ⟨fn_sound (s := tendrilref06_Safe_S) (T := []) (Λ := fun _ _ _ _ => none) 0 Tryz.func107 (c := bodyOf Tryz.f107) (by kernel_rfl) (by kernel_rfl) (lkΓ_cons (g := 86) (s0 := tendrilref06_Check_S) tendrilref06_Check_ok lkΓ_nil) (by decide +kernel) (by decide +kernel) (fun _ _ _ => rfl) tendrilref06_Safe_cuts (fun x => tendrilref06_Safe_run  x), bodied_of Tryz.func107 (by decide +kernel) (by decide +kernel)⟩

theorem tendrilref07_Turn_ok : SigOk Tryz.prog 90 tendrilref07_Turn_S ∧ Bodied Tryz.prog 90 :=
  ⟨fn_sound (s := tendrilref07_Turn_S) (T := [(14, [1, 2, 4, 5, 19])]) (Λ := tendrilref07_Turn_Λ) 2000000 Tryz.func90 (c := bodyOf Tryz.f90) (by kernel_rfl) (by kernel_rfl) (lkΓ_cons (g := 52) (s0 := tendrilref07_Check_S) tendrilref07_Check_ok (lkΓ_cons (g := 105) (s0 := tendrilref06_Turn_S) tendrilref06_Turn_ok (lkΓ_cons (g := 106) (s0 := tendrilref05_Reclaim_S) tendrilref05_Reclaim_ok (lkΓ_cons (g := 107) (s0 := tendrilref06_Safe_S) tendrilref06_Safe_ok lkΓ_nil)))) (by decide +kernel) (by decide +kernel) tendrilref07_Turn_Λ0 tendrilref07_Turn_cuts (fun x => tendrilref07_Turn_run 2000000 x), bodied_of Tryz.func90 (by decide +kernel) (by decide +kernel)⟩

theorem tendrilref07_End_ok : SigOk Tryz.prog 58 tendrilref07_End_S ∧ Bodied Tryz.prog 58 :=
  ⟨fn_sound (s := tendrilref07_End_S) (T := []) (Λ := fun _ _ _ _ => none) 0 Tryz.func58 (c := bodyOf Tryz.f58) (by kernel_rfl) (by kernel_rfl) (lkΓ_cons (g := 52) (s0 := tendrilref07_Check_S) tendrilref07_Check_ok (lkΓ_cons (g := 89) (s0 := tendrilref06_Unpin_S) tendrilref06_Unpin_ok (lkΓ_cons (g := 90) (s0 := tendrilref07_Turn_S) tendrilref07_Turn_ok lkΓ_nil))) (by decide +kernel) (by decide +kernel) (fun _ _ _ => rfl) tendrilref07_End_cuts (fun x => tendrilref07_End_run  x), bodied_of Tryz.func58 (by decide +kernel) (by decide +kernel)⟩

theorem tendrilref02_Load_ok : SigOk Tryz.prog 59 tendrilref02_Load_S ∧ Bodied Tryz.prog 59 :=
  ⟨fn_sound (s := tendrilref02_Load_S) (T := []) (Λ := fun _ _ _ _ => none) 0 Tryz.func59 (c := bodyOf Tryz.f59) (by kernel_rfl) (by kernel_rfl) lkΓ_nil (by decide +kernel) (by decide +kernel) (fun _ _ _ => rfl) tendrilref02_Load_cuts (fun x => tendrilref02_Load_run  x), bodied_of Tryz.func59 (by decide +kernel) (by decide +kernel)⟩

theorem tendrilref01_Unpack_ok : SigOk Tryz.prog 23 tendrilref01_Unpack_S ∧ Bodied Tryz.prog 23 :=
  ⟨fn_sound (s := tendrilref01_Unpack_S) (T := []) (Λ := fun _ _ _ _ => none) 0 Tryz.func23 (c := bodyOf Tryz.f23) (by kernel_rfl) (by kernel_rfl) lkΓ_nil (by decide +kernel) (by decide +kernel) (fun _ _ _ => rfl) tendrilref01_Unpack_cuts (fun x => tendrilref01_Unpack_run  x), bodied_of Tryz.func23 (by decide +kernel) (by decide +kernel)⟩

theorem tendrilref03_Field_ok : SigOk Tryz.prog 108 tendrilref03_Field_S ∧ Bodied Tryz.prog 108 :=
  ⟨fn_sound (s := tendrilref03_Field_S) (T := [(14, [1, 2, 3, 4, 11, 12, 13])]) (Λ := tendrilref03_Field_Λ) 2000000 Tryz.func108 (c := bodyOf Tryz.f108) (by kernel_rfl) (by kernel_rfl) (lkΓ_cons (g := 51) (s0 := tendrilref03_Check_S) tendrilref03_Check_ok (lkΓ_cons (g := 54) (s0 := tendrilref03_Cap_S) tendrilref03_Cap_ok lkΓ_nil)) (by decide +kernel) (by decide +kernel) tendrilref03_Field_Λ0 tendrilref03_Field_cuts (fun x => tendrilref03_Field_run 2000000 x), bodied_of Tryz.func108 (by decide +kernel) (by decide +kernel)⟩

theorem tendrilref14_at_ok : SigOk Tryz.prog 91 tendrilref14_at_S ∧ Bodied Tryz.prog 91 :=
  ⟨fn_sound (s := tendrilref14_at_S) (T := []) (Λ := fun _ _ _ _ => none) 0 Tryz.func91 (c := bodyOf Tryz.f91) (by kernel_rfl) (by kernel_rfl) (lkΓ_cons (g := 23) (s0 := tendrilref01_Unpack_S) tendrilref01_Unpack_ok (lkΓ_cons (g := 51) (s0 := tendrilref03_Check_S) tendrilref03_Check_ok (lkΓ_cons (g := 53) (s0 := tendrilref03_Size_S) tendrilref03_Size_ok (lkΓ_cons (g := 108) (s0 := tendrilref03_Field_S) tendrilref03_Field_ok lkΓ_nil)))) (by decide +kernel) (by decide +kernel) (fun _ _ _ => rfl) tendrilref14_at_cuts (fun x => tendrilref14_at_run  x), bodied_of Tryz.func91 (by decide +kernel) (by decide +kernel)⟩

theorem tendrilref14_Field_ok : SigOk Tryz.prog 60 tendrilref14_Field_S ∧ Bodied Tryz.prog 60 :=
  ⟨fn_sound (s := tendrilref14_Field_S) (T := []) (Λ := fun _ _ _ _ => none) 0 Tryz.func60 (c := bodyOf Tryz.f60) (by kernel_rfl) (by kernel_rfl) (lkΓ_cons (g := 91) (s0 := tendrilref14_at_S) tendrilref14_at_ok lkΓ_nil) (by decide +kernel) (by decide +kernel) (fun _ _ _ => rfl) tendrilref14_Field_cuts (fun x => tendrilref14_Field_run  x), bodied_of Tryz.func60 (by decide +kernel) (by decide +kernel)⟩

theorem tendrilref02_Store_ok : SigOk Tryz.prog 61 tendrilref02_Store_S ∧ Bodied Tryz.prog 61 :=
  ⟨fn_sound (s := tendrilref02_Store_S) (T := []) (Λ := fun _ _ _ _ => none) 0 Tryz.func61 (c := bodyOf Tryz.f61) (by kernel_rfl) (by kernel_rfl) lkΓ_nil (by decide +kernel) (by decide +kernel) (fun _ _ _ => rfl) tendrilref02_Store_cuts (fun x => tendrilref02_Store_run  x), bodied_of Tryz.func61 (by decide +kernel) (by decide +kernel)⟩

theorem tendrilref14_Put_ok : SigOk Tryz.prog 62 tendrilref14_Put_S ∧ Bodied Tryz.prog 62 :=
  ⟨fn_sound (s := tendrilref14_Put_S) (T := []) (Λ := fun _ _ _ _ => none) 0 Tryz.func62 (c := bodyOf Tryz.f62) (by kernel_rfl) (by kernel_rfl) (lkΓ_cons (g := 61) (s0 := tendrilref02_Store_S) tendrilref02_Store_ok (lkΓ_cons (g := 91) (s0 := tendrilref14_at_S) tendrilref14_at_ok lkΓ_nil)) (by decide +kernel) (by decide +kernel) (fun _ _ _ => rfl) tendrilref14_Put_cuts (fun x => tendrilref14_Put_run  x), bodied_of Tryz.func62 (by decide +kernel) (by decide +kernel)⟩

theorem tendrilref08_Try_ok : SigOk Tryz.prog 63 tendrilref08_Try_S ∧ Bodied Tryz.prog 63 :=
  ⟨fn_sound (s := tendrilref08_Try_S) (T := []) (Λ := fun _ _ _ _ => none) 0 Tryz.func63 (c := bodyOf Tryz.f63) (by kernel_rfl) (by kernel_rfl) (lkΓ_cons (g := 87) (s0 := tendrilref08_Check_S) tendrilref08_Check_ok lkΓ_nil) (by decide +kernel) (by decide +kernel) (fun _ _ _ => rfl) tendrilref08_Try_cuts (fun x => tendrilref08_Try_run  x), bodied_of Tryz.func63 (by decide +kernel) (by decide +kernel)⟩

theorem tendrilref16_set_ok : SigOk Tryz.prog 64 tendrilref16_set_S ∧ Bodied Tryz.prog 64 :=
  ⟨fn_sound (s := tendrilref16_set_S) (T := []) (Λ := fun _ _ _ _ => none) 0 Tryz.func64 (c := bodyOf Tryz.f64) (by kernel_rfl) (by kernel_rfl) (lkΓ_cons (g := 6) (s0 := tendrilref02_Copy_S) tendrilref02_Copy_ok lkΓ_nil) (by decide +kernel) (by decide +kernel) (fun _ _ _ => rfl) tendrilref16_set_cuts (fun x => tendrilref16_set_run  x), bodied_of Tryz.func64 (by decide +kernel) (by decide +kernel)⟩

theorem tendrilref08_Free_ok : SigOk Tryz.prog 65 tendrilref08_Free_S ∧ Bodied Tryz.prog 65 :=
  ⟨fn_sound (s := tendrilref08_Free_S) (T := []) (Λ := fun _ _ _ _ => none) 0 Tryz.func65 (c := bodyOf Tryz.f65) (by kernel_rfl) (by kernel_rfl) (lkΓ_cons (g := 87) (s0 := tendrilref08_Check_S) tendrilref08_Check_ok lkΓ_nil) (by decide +kernel) (by decide +kernel) (fun _ _ _ => rfl) tendrilref08_Free_cuts (fun x => tendrilref08_Free_run  x), bodied_of Tryz.func65 (by decide +kernel) (by decide +kernel)⟩

theorem tendrilref07_kind_ok : SigOk Tryz.prog 68 tendrilref07_kind_S ∧ Bodied Tryz.prog 68 :=
  ⟨fn_sound (s := tendrilref07_kind_S) (T := []) (Λ := fun _ _ _ _ => none) 0 Tryz.func68 (c := bodyOf Tryz.f68) (by kernel_rfl) (by kernel_rfl) lkΓ_nil (by decide +kernel) (by decide +kernel) (fun _ _ _ => rfl) tendrilref07_kind_cuts (fun x => tendrilref07_kind_run  x), bodied_of Tryz.func68 (by decide +kernel) (by decide +kernel)⟩

theorem tendrilref01_Pack_ok : SigOk Tryz.prog 110 tendrilref01_Pack_S ∧ Bodied Tryz.prog 110 :=
  ⟨fn_sound (s := tendrilref01_Pack_S) (T := []) (Λ := fun _ _ _ _ => none) 0 Tryz.func110 (c := bodyOf Tryz.f110) (by kernel_rfl) (by kernel_rfl) lkΓ_nil (by decide +kernel) (by decide +kernel) (fun _ _ _ => rfl) tendrilref01_Pack_cuts (fun x => tendrilref01_Pack_run  x), bodied_of Tryz.func110 (by decide +kernel) (by decide +kernel)⟩

theorem tendrilref05_Take_ok : SigOk Tryz.prog 92 tendrilref05_Take_S ∧ Bodied Tryz.prog 92 :=
  ⟨fn_sound (s := tendrilref05_Take_S) (T := []) (Λ := fun _ _ _ _ => none) 0 Tryz.func92 (c := bodyOf Tryz.f92) (by kernel_rfl) (by kernel_rfl) (lkΓ_cons (g := 85) (s0 := tendrilref05_Check_S) tendrilref05_Check_ok (lkΓ_cons (g := 109) (s0 := tendrilref05_Copy_S) tendrilref05_Copy_ok (lkΓ_cons (g := 110) (s0 := tendrilref01_Pack_S) tendrilref01_Pack_ok lkΓ_nil))) (by decide +kernel) (by decide +kernel) (fun _ _ _ => rfl) tendrilref05_Take_cuts (fun x => tendrilref05_Take_run  x), bodied_of Tryz.func92 (by decide +kernel) (by decide +kernel)⟩

theorem tendrilref07_Take_ok : SigOk Tryz.prog 66 tendrilref07_Take_S ∧ Bodied Tryz.prog 66 :=
  ⟨fn_sound (s := tendrilref07_Take_S) (T := []) (Λ := fun _ _ _ _ => none) 0 Tryz.func66 (c := bodyOf Tryz.f66) (by kernel_rfl) (by kernel_rfl) (lkΓ_cons (g := 52) (s0 := tendrilref07_Check_S) tendrilref07_Check_ok (lkΓ_cons (g := 68) (s0 := tendrilref07_kind_S) tendrilref07_kind_ok (lkΓ_cons (g := 92) (s0 := tendrilref05_Take_S) tendrilref05_Take_ok lkΓ_nil))) (by decide +kernel) (by decide +kernel) (fun _ _ _ => rfl) tendrilref07_Take_cuts (fun x => tendrilref07_Take_run  x), bodied_of Tryz.func66 (by decide +kernel) (by decide +kernel)⟩

theorem tendrilref05_Retire_ok : SigOk Tryz.prog 93 tendrilref05_Retire_S ∧ Bodied Tryz.prog 93 :=
  ⟨fn_sound (s := tendrilref05_Retire_S) (T := []) (Λ := fun _ _ _ _ => none) 0 Tryz.func93 (c := bodyOf Tryz.f93) (by kernel_rfl) (by kernel_rfl) (lkΓ_cons (g := 23) (s0 := tendrilref01_Unpack_S) tendrilref01_Unpack_ok (lkΓ_cons (g := 85) (s0 := tendrilref05_Check_S) tendrilref05_Check_ok (lkΓ_cons (g := 109) (s0 := tendrilref05_Copy_S) tendrilref05_Copy_ok lkΓ_nil))) (by decide +kernel) (by decide +kernel) (fun _ _ _ => rfl) tendrilref05_Retire_cuts (fun x => tendrilref05_Retire_run  x), bodied_of Tryz.func93 (by decide +kernel) (by decide +kernel)⟩

theorem tendrilref07_Retire_ok : SigOk Tryz.prog 67 tendrilref07_Retire_S ∧ Bodied Tryz.prog 67 :=
  ⟨fn_sound (s := tendrilref07_Retire_S) (T := []) (Λ := fun _ _ _ _ => none) 0 Tryz.func67 (c := bodyOf Tryz.f67) (by kernel_rfl) (by kernel_rfl) (lkΓ_cons (g := 52) (s0 := tendrilref07_Check_S) tendrilref07_Check_ok (lkΓ_cons (g := 68) (s0 := tendrilref07_kind_S) tendrilref07_kind_ok (lkΓ_cons (g := 93) (s0 := tendrilref05_Retire_S) tendrilref05_Retire_ok lkΓ_nil))) (by decide +kernel) (by decide +kernel) (fun _ _ _ => rfl) tendrilref07_Retire_cuts (fun x => tendrilref07_Retire_run  x), bodied_of Tryz.func67 (by decide +kernel) (by decide +kernel)⟩

theorem tendrilref16_do_ok : SigOk Tryz.prog 22 tendrilref16_do_S ∧ Bodied Tryz.prog 22 :=
  ⟨fn_sound (s := tendrilref16_do_S) (T := []) (Λ := fun _ _ _ _ => none) 0 Tryz.func22 (c := bodyOf Tryz.f22) (by kernel_rfl) (by kernel_rfl) (lkΓ_cons (g := 56) (s0 := tendrilref16_word_S) tendrilref16_word_ok (lkΓ_cons (g := 57) (s0 := tendrilref07_Pin_S) tendrilref07_Pin_ok (lkΓ_cons (g := 58) (s0 := tendrilref07_End_S) tendrilref07_End_ok (lkΓ_cons (g := 59) (s0 := tendrilref02_Load_S) tendrilref02_Load_ok (lkΓ_cons (g := 60) (s0 := tendrilref14_Field_S) tendrilref14_Field_ok (lkΓ_cons (g := 61) (s0 := tendrilref02_Store_S) tendrilref02_Store_ok (lkΓ_cons (g := 62) (s0 := tendrilref14_Put_S) tendrilref14_Put_ok (lkΓ_cons (g := 63) (s0 := tendrilref08_Try_S) tendrilref08_Try_ok (lkΓ_cons (g := 64) (s0 := tendrilref16_set_S) tendrilref16_set_ok (lkΓ_cons (g := 65) (s0 := tendrilref08_Free_S) tendrilref08_Free_ok (lkΓ_cons (g := 66) (s0 := tendrilref07_Take_S) tendrilref07_Take_ok (lkΓ_cons (g := 67) (s0 := tendrilref07_Retire_S) tendrilref07_Retire_ok lkΓ_nil)))))))))))) (by decide +kernel) (by decide +kernel) (fun _ _ _ => rfl) tendrilref16_do_cuts (fun x => tendrilref16_do_run  x), bodied_of Tryz.func22 (by decide +kernel) (by decide +kernel)⟩

theorem tendrilref07_Gen_ok : SigOk Tryz.prog 24 tendrilref07_Gen_S ∧ Bodied Tryz.prog 24 :=
  ⟨fn_sound (s := tendrilref07_Gen_S) (T := []) (Λ := fun _ _ _ _ => none) 0 Tryz.func24 (c := bodyOf Tryz.f24) (by kernel_rfl) (by kernel_rfl) (lkΓ_cons (g := 23) (s0 := tendrilref01_Unpack_S) tendrilref01_Unpack_ok (lkΓ_cons (g := 52) (s0 := tendrilref07_Check_S) tendrilref07_Check_ok (lkΓ_cons (g := 68) (s0 := tendrilref07_kind_S) tendrilref07_kind_ok lkΓ_nil))) (by decide +kernel) (by decide +kernel) (fun _ _ _ => rfl) tendrilref07_Gen_cuts (fun x => tendrilref07_Gen_run  x), bodied_of Tryz.func24 (by decide +kernel) (by decide +kernel)⟩

theorem tendrilref16_Do_ok : SigOk Tryz.prog 8 tendrilref16_Do_S ∧ Bodied Tryz.prog 8 :=
  ⟨fn_sound (s := tendrilref16_Do_S) (T := []) (Λ := fun _ _ _ _ => none) 0 Tryz.func8 (c := bodyOf Tryz.f8) (by kernel_rfl) (by kernel_rfl) (lkΓ_cons (g := 20) (s0 := tendrilref15_Check_S) tendrilref15_Check_ok (lkΓ_cons (g := 21) (s0 := tendrilref16_Waits_S) tendrilref16_Waits_ok (lkΓ_cons (g := 22) (s0 := tendrilref16_do_S) tendrilref16_do_ok (lkΓ_cons (g := 23) (s0 := tendrilref01_Unpack_S) tendrilref01_Unpack_ok (lkΓ_cons (g := 24) (s0 := tendrilref07_Gen_S) tendrilref07_Gen_ok lkΓ_nil))))) (by decide +kernel) (by decide +kernel) (fun _ _ _ => rfl) tendrilref16_Do_cuts (fun x => tendrilref16_Do_run  x), bodied_of Tryz.func8 (by decide +kernel) (by decide +kernel)⟩

theorem tendrilref02_Same_ok : SigOk Tryz.prog 27 tendrilref02_Same_S ∧ Bodied Tryz.prog 27 :=
  ⟨fn_sound (s := tendrilref02_Same_S) (T := [(10, [0, 1, 12, 13])]) (Λ := tendrilref02_Same_Λ) 2000000 Tryz.func27 (c := bodyOf Tryz.f27) (by kernel_rfl) (by kernel_rfl) lkΓ_nil (by decide +kernel) (by decide +kernel) tendrilref02_Same_Λ0 tendrilref02_Same_cuts (fun x => tendrilref02_Same_run 2000000 x), bodied_of Tryz.func27 (by decide +kernel) (by decide +kernel)⟩

theorem tendrilref05_Same_ok : SigOk Tryz.prog 25 tendrilref05_Same_S ∧ Bodied Tryz.prog 25 :=
  ⟨fn_sound (s := tendrilref05_Same_S) (T := []) (Λ := fun _ _ _ _ => none) 0 Tryz.func25 (c := bodyOf Tryz.f25) (by kernel_rfl) (by kernel_rfl) (lkΓ_cons (g := 27) (s0 := tendrilref02_Same_S) tendrilref02_Same_ok lkΓ_nil) (by decide +kernel) (by decide +kernel) (fun _ _ _ => rfl) tendrilref05_Same_cuts (fun x => tendrilref05_Same_run  x), bodied_of Tryz.func25 (by decide +kernel) (by decide +kernel)⟩

theorem tendrilref06_Same_ok : SigOk Tryz.prog 26 tendrilref06_Same_S ∧ Bodied Tryz.prog 26 :=
  ⟨fn_sound (s := tendrilref06_Same_S) (T := []) (Λ := fun _ _ _ _ => none) 0 Tryz.func26 (c := bodyOf Tryz.f26) (by kernel_rfl) (by kernel_rfl) (lkΓ_cons (g := 27) (s0 := tendrilref02_Same_S) tendrilref02_Same_ok lkΓ_nil) (by decide +kernel) (by decide +kernel) (fun _ _ _ => rfl) tendrilref06_Same_cuts (fun x => tendrilref06_Same_run  x), bodied_of Tryz.func26 (by decide +kernel) (by decide +kernel)⟩

theorem tendrilref07_Same_ok : SigOk Tryz.prog 9 tendrilref07_Same_S ∧ Bodied Tryz.prog 9 :=
  ⟨fn_sound (s := tendrilref07_Same_S) (T := [(6, [2, 3, 6])]) (Λ := tendrilref07_Same_Λ) 2000000 Tryz.func9 (c := bodyOf Tryz.f9) (by kernel_rfl) (by kernel_rfl) (lkΓ_cons (g := 25) (s0 := tendrilref05_Same_S) tendrilref05_Same_ok (lkΓ_cons (g := 26) (s0 := tendrilref06_Same_S) tendrilref06_Same_ok (lkΓ_cons (g := 27) (s0 := tendrilref02_Same_S) tendrilref02_Same_ok lkΓ_nil))) (by decide +kernel) (by decide +kernel) tendrilref07_Same_Λ0 tendrilref07_Same_cuts (fun x => tendrilref07_Same_run 2000000 x), bodied_of Tryz.func9 (by decide +kernel) (by decide +kernel)⟩

theorem tendrilref16_SameTouches_ok : SigOk Tryz.prog 10 tendrilref16_SameTouches_S ∧ Bodied Tryz.prog 10 :=
  ⟨fn_sound (s := tendrilref16_SameTouches_S) (T := [(10, [0, 1, 12, 13])]) (Λ := tendrilref16_SameTouches_Λ) 2000000 Tryz.func10 (c := bodyOf Tryz.f10) (by kernel_rfl) (by kernel_rfl) lkΓ_nil (by decide +kernel) (by decide +kernel) tendrilref16_SameTouches_Λ0 tendrilref16_SameTouches_cuts (fun x => tendrilref16_SameTouches_run 2000000 x), bodied_of Tryz.func10 (by decide +kernel) (by decide +kernel)⟩

theorem tendrillaw16_AskDoes_ok : SigOk Tryz.prog 3 tendrillaw16_AskDoes_S ∧ Bodied Tryz.prog 3 :=
  ⟨fn_sound (s := tendrillaw16_AskDoes_S) (T := []) (Λ := fun _ _ _ _ => none) 0 Tryz.func3 (c := bodyOf Tryz.f3) (by kernel_rfl) (by kernel_rfl) (lkΓ_cons (g := 4) (s0 := tendrillaw16_live_S) tendrillaw16_live_ok (lkΓ_cons (g := 5) (s0 := tendrilref07_Few_S) tendrilref07_Few_ok (lkΓ_cons (g := 6) (s0 := tendrilref02_Copy_S) tendrilref02_Copy_ok (lkΓ_cons (g := 7) (s0 := ask_Do_S) ask_Do_ok (lkΓ_cons (g := 8) (s0 := tendrilref16_Do_S) tendrilref16_Do_ok (lkΓ_cons (g := 9) (s0 := tendrilref07_Same_S) tendrilref07_Same_ok (lkΓ_cons (g := 10) (s0 := tendrilref16_SameTouches_S) tendrilref16_SameTouches_ok lkΓ_nil))))))) (by decide +kernel) (by decide +kernel) (fun _ _ _ => rfl) tendrillaw16_AskDoes_cuts (fun x => tendrillaw16_AskDoes_run  x), bodied_of Tryz.func3 (by decide +kernel) (by decide +kernel)⟩

end Go.Proofs.YtcoiboghdmmdcadGreatFn
