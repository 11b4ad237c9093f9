/- The contracts of the functions that this seat's laws reach; no condition. -/
import Derived.Test.YthnbleblmpnfhaaProg
import Derived.KernelRfl
import Derived.Test.YthnbleblmpnfhaaPx25
import Derived.Test.YthnbleblmpnfhaaFolD
import Derived.Test.YthnbleblmpnfhaaFnsD
import Derived.Test.YthnbleblmpnfhaaFnsA0
import Derived.Test.YthnbleblmpnfhaaFnsA1
import Derived.Test.YthnbleblmpnfhaaFnsA2
import Derived.Test.YthnbleblmpnfhaaFnsA3
import Derived.Test.YthnbleblmpnfhaaFnsA4
import Derived.Test.YthnbleblmpnfhaaFnsA5
import Derived.Test.YthnbleblmpnfhaaFnsA6
set_option linter.unusedVariables false
set_option linter.unusedSimpArgs false
namespace Go.Proofs.YthnbleblmpnfhaaFn
open Go Go.RowKit Go.Proofs.YthnbleblmpnfhaaPx
theorem tendrilref02_Same_ok : SigOk Try.prog 14 tendrilref02_Same_S ∧ Bodied Try.prog 14 :=
  ⟨fn_sound (s := tendrilref02_Same_S) (T := [(10, [0, 1, 12, 13])]) (Λ := tendrilref02_Same_Λ) 2000000 Try.func14 (c := bodyOf Try.f14) (by kernel_rfl) (by kernel_rfl) lkΓ_nil (by decide +kernel) (by decide +kernel) tendrilref02_Same_Λ0 tendrilref02_Same_cuts (fun x => tendrilref02_Same_run 2000000 x), bodied_of Try.func14 (by decide +kernel) (by decide +kernel)⟩

theorem mem_Store_ok : SigOk Try.prog 31 mem_Store_S ∧ Bodied Try.prog 31 :=
  ⟨fn_sound (s := mem_Store_S) (T := []) (Λ := fun _ _ _ _ => none) 0 Try.func31 (c := bodyOf Try.f31) (by kernel_rfl) (by kernel_rfl) (lkΓ_cons (g := 37) (s0 := mem_in_S) mem_in_ok (lkΓ_cons (g := 39) (s0 := slices_Clone_S) slices_Clone_ok lkΓ_nil)) (by decide +kernel) (by decide +kernel) (fun _ _ _ => rfl) mem_Store_cuts (fun x => mem_Store_run  x), bodied_of Try.func31 (by decide +kernel) (by decide +kernel)⟩

theorem chain_Put_ok : SigOk Try.prog 16 chain_Put_S ∧ Bodied Try.prog 16 :=
  ⟨fn_sound (s := chain_Put_S) (T := []) (Λ := fun _ _ _ _ => none) 0 Try.func16 (c := bodyOf Try.f16) (by kernel_rfl) (by kernel_rfl) (lkΓ_cons (g := 28) (s0 := chain_where_S) chain_where_ok (lkΓ_cons (g := 31) (s0 := mem_Store_S) mem_Store_ok lkΓ_nil)) (by decide +kernel) (by decide +kernel) (fun _ _ _ => rfl) chain_Put_cuts (fun x => chain_Put_run  x), bodied_of Try.func16 (by decide +kernel) (by decide +kernel)⟩

theorem chain_Push_ok : SigOk Try.prog 19 chain_Push_S ∧ Bodied Try.prog 19 :=
  ⟨fn_sound (s := chain_Push_S) (T := []) (Λ := fun _ _ _ _ => none) 0 Try.func19 (c := bodyOf Try.f19) (by kernel_rfl) (by kernel_rfl) (lkΓ_cons (g := 16) (s0 := chain_Put_S) chain_Put_ok (lkΓ_cons (g := 29) (s0 := mem_Load_S) mem_Load_ok (lkΓ_cons (g := 31) (s0 := mem_Store_S) mem_Store_ok lkΓ_nil))) (by decide +kernel) (by decide +kernel) (fun _ _ _ => rfl) chain_Push_cuts (fun x => chain_Push_run  x), bodied_of Try.func19 (by decide +kernel) (by decide +kernel)⟩

theorem mem_New_ok : SigOk Try.prog 33 mem_New_S ∧ Bodied Try.prog 33 :=
  ⟨fn_sound (s := mem_New_S) (T := []) (Λ := fun _ _ _ _ => none) 0 Try.func33 (c := bodyOf Try.f33) (by kernel_rfl) (by kernel_rfl) lkΓ_nil (by decide +kernel) (by decide +kernel) (fun _ _ _ => rfl) mem_New_cuts (fun x => mem_New_run  x), bodied_of Try.func33 (by decide +kernel) (by decide +kernel)⟩

theorem place_New_ok : SigOk Try.prog 21 place_New_S ∧ Bodied Try.prog 21 :=
  ⟨fn_sound (s := place_New_S) (T := []) (Λ := fun _ _ _ _ => none) 0 Try.func21 (c := bodyOf Try.f21) (by kernel_rfl) (by kernel_rfl) (lkΓ_cons (g := 18) (s0 := place_Size_S) place_Size_ok (lkΓ_cons (g := 23) (s0 := place_Check_S) place_Check_ok (lkΓ_cons (g := 33) (s0 := mem_New_S) mem_New_ok lkΓ_nil))) (by decide +kernel) (by decide +kernel) (fun _ _ _ => rfl) place_New_cuts (fun x => place_New_run  x), bodied_of Try.func21 (by decide +kernel) (by decide +kernel)⟩

theorem tendrillaw14_plain_ok : SigOk Try.prog 22 tendrillaw14_plain_S ∧ Bodied Try.prog 22 :=
  ⟨fn_sound (s := tendrillaw14_plain_S) (T := []) (Λ := fun _ _ _ _ => none) 0 Try.func22 (c := bodyOf Try.f22) (by kernel_rfl) (by kernel_rfl) lkΓ_nil (by decide +kernel) (by decide +kernel) (fun _ _ _ => rfl) tendrillaw14_plain_cuts (fun x => tendrillaw14_plain_run  x), bodied_of Try.func22 (by decide +kernel) (by decide +kernel)⟩

theorem tendrillaw14_live_ok : SigOk Try.prog 8 tendrillaw14_live_S ∧ Bodied Try.prog 8 :=
  ⟨fn_sound (s := tendrillaw14_live_S) (T := []) (Λ := fun _ _ _ _ => none) 0 Try.func8 (c := bodyOf Try.f8) (by kernel_rfl) (by kernel_rfl) (lkΓ_cons (g := 10) (s0 := chain_Follow_S) chain_Follow_ok (lkΓ_cons (g := 14) (s0 := tendrilref02_Same_S) tendrilref02_Same_ok (lkΓ_cons (g := 19) (s0 := chain_Push_S) chain_Push_ok (lkΓ_cons (g := 21) (s0 := place_New_S) place_New_ok (lkΓ_cons (g := 22) (s0 := tendrillaw14_plain_S) tendrillaw14_plain_ok lkΓ_nil))))) (by decide +kernel) (by decide +kernel) (fun _ _ _ => rfl) tendrillaw14_live_cuts (fun x => tendrillaw14_live_run  x), bodied_of Try.func8 (by decide +kernel) (by decide +kernel)⟩

theorem tendrillaw14_few_ok : SigOk Try.prog 9 tendrillaw14_few_S ∧ Bodied Try.prog 9 :=
  ⟨fn_sound (s := tendrillaw14_few_S) (T := []) (Λ := fun _ _ _ _ => none) 0 Try.func9 (c := bodyOf Try.f9) (by kernel_rfl) (by kernel_rfl) lkΓ_nil (by decide +kernel) (by decide +kernel) (fun _ _ _ => rfl) tendrillaw14_few_cuts (fun x => tendrillaw14_few_run  x), bodied_of Try.func9 (by decide +kernel) (by decide +kernel)⟩

theorem tendrilref03_Check_ok : SigOk Try.prog 25 tendrilref03_Check_S ∧ Bodied Try.prog 25 :=
  ⟨fn_sound (s := tendrilref03_Check_S) (T := [(6, [15, 16, 17])]) (Λ := tendrilref03_Check_Λ) 2000000 Try.func25 (c := bodyOf Try.f25) (by kernel_rfl) (by kernel_rfl) lkΓ_nil (by decide +kernel) (by decide +kernel) tendrilref03_Check_Λ0 tendrilref03_Check_cuts (fun x => tendrilref03_Check_run 2000000 x), bodied_of Try.func25 (by decide +kernel) (by decide +kernel)⟩

theorem tendrilref03_Size_ok : SigOk Try.prog 26 tendrilref03_Size_S ∧ Bodied Try.prog 26 :=
  ⟨fn_sound (s := tendrilref03_Size_S) (T := []) (Λ := fun _ _ _ _ => none) 0 Try.func26 (c := bodyOf Try.f26) (by kernel_rfl) (by kernel_rfl) (lkΓ_cons (g := 25) (s0 := tendrilref03_Check_S) tendrilref03_Check_ok lkΓ_nil) (by decide +kernel) (by decide +kernel) (fun _ _ _ => rfl) tendrilref03_Size_cuts (fun x => tendrilref03_Size_run  x), bodied_of Try.func26 (by decide +kernel) (by decide +kernel)⟩

theorem tendrilref01_Unpack_ok : SigOk Try.prog 27 tendrilref01_Unpack_S ∧ Bodied Try.prog 27 :=
  ⟨fn_sound (s := tendrilref01_Unpack_S) (T := []) (Λ := fun _ _ _ _ => none) 0 Try.func27 (c := bodyOf Try.f27) (by kernel_rfl) (by kernel_rfl) lkΓ_nil (by decide +kernel) (by decide +kernel) (fun _ _ _ => rfl) tendrilref01_Unpack_cuts (fun x => tendrilref01_Unpack_run  x), bodied_of Try.func27 (by decide +kernel) (by decide +kernel)⟩

theorem tendrilref03_Cap_ok : SigOk Try.prog 15 tendrilref03_Cap_S ∧ Bodied Try.prog 15 :=
  ⟨fn_sound (s := tendrilref03_Cap_S) (T := []) (Λ := fun _ _ _ _ => none) 0 Try.func15 (c := bodyOf Try.f15) (by kernel_rfl) (by kernel_rfl) lkΓ_nil (by decide +kernel) (by decide +kernel) (fun _ _ _ => rfl) tendrilref03_Cap_cuts (fun x => tendrilref03_Cap_run  x), bodied_of Try.func15 (by decide +kernel) (by decide +kernel)⟩

theorem tendrilref03_Field_ok : SigOk Try.prog 38 tendrilref03_Field_S ∧ Bodied Try.prog 38 :=
  ⟨fn_sound (s := tendrilref03_Field_S) (T := [(14, [1, 2, 3, 4, 11, 12, 13])]) (Λ := tendrilref03_Field_Λ) 2000000 Try.func38 (c := bodyOf Try.f38) (by kernel_rfl) (by kernel_rfl) (lkΓ_cons (g := 15) (s0 := tendrilref03_Cap_S) tendrilref03_Cap_ok (lkΓ_cons (g := 25) (s0 := tendrilref03_Check_S) tendrilref03_Check_ok lkΓ_nil)) (by decide +kernel) (by decide +kernel) tendrilref03_Field_Λ0 tendrilref03_Field_cuts (fun x => tendrilref03_Field_run 2000000 x), bodied_of Try.func38 (by decide +kernel) (by decide +kernel)⟩

theorem tendrilref14_at_ok : SigOk Try.prog 30 tendrilref14_at_S ∧ Bodied Try.prog 30 :=
  ⟨fn_sound (s := tendrilref14_at_S) (T := []) (Λ := fun _ _ _ _ => none) 0 Try.func30 (c := bodyOf Try.f30) (by kernel_rfl) (by kernel_rfl) (lkΓ_cons (g := 25) (s0 := tendrilref03_Check_S) tendrilref03_Check_ok (lkΓ_cons (g := 26) (s0 := tendrilref03_Size_S) tendrilref03_Size_ok (lkΓ_cons (g := 27) (s0 := tendrilref01_Unpack_S) tendrilref01_Unpack_ok (lkΓ_cons (g := 38) (s0 := tendrilref03_Field_S) tendrilref03_Field_ok lkΓ_nil)))) (by decide +kernel) (by decide +kernel) (fun _ _ _ => rfl) tendrilref14_at_cuts (fun x => tendrilref14_at_run  x), bodied_of Try.func30 (by decide +kernel) (by decide +kernel)⟩

theorem tendrilref14_Field_ok : SigOk Try.prog 13 tendrilref14_Field_S ∧ Bodied Try.prog 13 :=
  ⟨fn_sound (s := tendrilref14_Field_S) (T := []) (Λ := fun _ _ _ _ => none) 0 Try.func13 (c := bodyOf Try.f13) (by kernel_rfl) (by kernel_rfl) (lkΓ_cons (g := 30) (s0 := tendrilref14_at_S) tendrilref14_at_ok lkΓ_nil) (by decide +kernel) (by decide +kernel) (fun _ _ _ => rfl) tendrilref14_Field_cuts (fun x => tendrilref14_Field_run  x), bodied_of Try.func13 (by decide +kernel) (by decide +kernel)⟩

theorem tendrilref14_Follow_ok : SigOk Try.prog 11 tendrilref14_Follow_S ∧ Bodied Try.prog 11 :=
  ⟨fn_sound (s := tendrilref14_Follow_S) (T := [(24, [1, 2, 4, 5, 12, 13, 14, 16, 55, 56, 57]), (12, [1, 2, 4, 5, 12, 13])]) (Λ := tendrilref14_Follow_Λ) 2000000 Try.func11 (c := bodyOf Try.f11) (by kernel_rfl) (by kernel_rfl) (lkΓ_cons (g := 13) (s0 := tendrilref14_Field_S) tendrilref14_Field_ok (lkΓ_cons (g := 25) (s0 := tendrilref03_Check_S) tendrilref03_Check_ok (lkΓ_cons (g := 26) (s0 := tendrilref03_Size_S) tendrilref03_Size_ok (lkΓ_cons (g := 27) (s0 := tendrilref01_Unpack_S) tendrilref01_Unpack_ok lkΓ_nil)))) (by decide +kernel) (by decide +kernel) tendrilref14_Follow_Λ0 tendrilref14_Follow_cuts (fun x => tendrilref14_Follow_run 2000000 x), bodied_of Try.func11 (by decide +kernel) (by decide +kernel)⟩

theorem tendrillaw14_ChainLooks_ok : SigOk Try.prog 3 tendrillaw14_ChainLooks_S ∧ Bodied Try.prog 3 :=
  ⟨fn_sound (s := tendrillaw14_ChainLooks_S) (T := []) (Λ := fun _ _ _ _ => none) 0 Try.func3 (c := bodyOf Try.f3) (by kernel_rfl) (by kernel_rfl) (lkΓ_cons (g := 8) (s0 := tendrillaw14_live_S) tendrillaw14_live_ok (lkΓ_cons (g := 9) (s0 := tendrillaw14_few_S) tendrillaw14_few_ok (lkΓ_cons (g := 10) (s0 := chain_Follow_S) chain_Follow_ok (lkΓ_cons (g := 11) (s0 := tendrilref14_Follow_S) tendrilref14_Follow_ok (lkΓ_cons (g := 12) (s0 := chain_Field_S) chain_Field_ok (lkΓ_cons (g := 13) (s0 := tendrilref14_Field_S) tendrilref14_Field_ok (lkΓ_cons (g := 14) (s0 := tendrilref02_Same_S) tendrilref02_Same_ok lkΓ_nil))))))) (by decide +kernel) (by decide +kernel) (fun _ _ _ => rfl) tendrillaw14_ChainLooks_cuts (fun x => tendrillaw14_ChainLooks_run  x), bodied_of Try.func3 (by decide +kernel) (by decide +kernel)⟩

theorem tendrillaw14_ChainRing_ok : SigOk Try.prog 4 tendrillaw14_ChainRing_S ∧ Bodied Try.prog 4 :=
  ⟨fn_sound (s := tendrillaw14_ChainRing_S) (T := [(26, [1, 2, 3, 4, 5, 11, 72, 73, 74])]) (Λ := tendrillaw14_ChainRing_Λ) 2000000 Try.func4 (c := bodyOf Try.f4) (by kernel_rfl) (by kernel_rfl) (lkΓ_cons (g := 8) (s0 := tendrillaw14_live_S) tendrillaw14_live_ok (lkΓ_cons (g := 9) (s0 := tendrillaw14_few_S) tendrillaw14_few_ok (lkΓ_cons (g := 10) (s0 := chain_Follow_S) chain_Follow_ok (lkΓ_cons (g := 12) (s0 := chain_Field_S) chain_Field_ok (lkΓ_cons (g := 15) (s0 := tendrilref03_Cap_S) tendrilref03_Cap_ok (lkΓ_cons (g := 16) (s0 := chain_Put_S) chain_Put_ok lkΓ_nil)))))) (by decide +kernel) (by decide +kernel) tendrillaw14_ChainRing_Λ0 tendrillaw14_ChainRing_cuts (fun x => tendrillaw14_ChainRing_run 2000000 x), bodied_of Try.func4 (by decide +kernel) (by decide +kernel)⟩

theorem tendrillaw14_ChainPuts_ok : SigOk Try.prog 5 tendrillaw14_ChainPuts_S ∧ Bodied Try.prog 5 :=
  ⟨fn_sound (s := tendrillaw14_ChainPuts_S) (T := [(30, [1, 2, 3, 4, 5, 6, 13, 19, 81, 82])]) (Λ := tendrillaw14_ChainPuts_Λ) 2000000 Try.func5 (c := bodyOf Try.f5) (by kernel_rfl) (by kernel_rfl) (lkΓ_cons (g := 8) (s0 := tendrillaw14_live_S) tendrillaw14_live_ok (lkΓ_cons (g := 9) (s0 := tendrillaw14_few_S) tendrillaw14_few_ok (lkΓ_cons (g := 12) (s0 := chain_Field_S) chain_Field_ok (lkΓ_cons (g := 16) (s0 := chain_Put_S) chain_Put_ok lkΓ_nil)))) (by decide +kernel) (by decide +kernel) tendrillaw14_ChainPuts_Λ0 tendrillaw14_ChainPuts_cuts (fun x => tendrillaw14_ChainPuts_run 2000000 x), bodied_of Try.func5 (by decide +kernel) (by decide +kernel)⟩

theorem place_Node_ok : SigOk Try.prog 17 place_Node_S ∧ Bodied Try.prog 17 :=
  ⟨fn_sound (s := place_Node_S) (T := []) (Λ := fun _ _ _ _ => none) 0 Try.func17 (c := bodyOf Try.f17) (by kernel_rfl) (by kernel_rfl) (lkΓ_cons (g := 23) (s0 := place_Check_S) place_Check_ok lkΓ_nil) (by decide +kernel) (by decide +kernel) (fun _ _ _ => rfl) place_Node_cuts (fun x => place_Node_run  x), bodied_of Try.func17 (by decide +kernel) (by decide +kernel)⟩

theorem chain_Unlink_ok : SigOk Try.prog 20 chain_Unlink_S ∧ Bodied Try.prog 20 :=
  ⟨fn_sound (s := chain_Unlink_S) (T := [(26, [1, 2, 3, 4, 5, 6, 14, 18, 54, 55, 56])]) (Λ := chain_Unlink_Λ) 2000000 Try.func20 (c := bodyOf Try.f20) (by kernel_rfl) (by kernel_rfl) (lkΓ_cons (g := 10) (s0 := chain_Follow_S) chain_Follow_ok (lkΓ_cons (g := 12) (s0 := chain_Field_S) chain_Field_ok (lkΓ_cons (g := 16) (s0 := chain_Put_S) chain_Put_ok (lkΓ_cons (g := 29) (s0 := mem_Load_S) mem_Load_ok (lkΓ_cons (g := 31) (s0 := mem_Store_S) mem_Store_ok lkΓ_nil))))) (by decide +kernel) (by decide +kernel) chain_Unlink_Λ0 chain_Unlink_cuts (fun x => chain_Unlink_run 2000000 x), bodied_of Try.func20 (by decide +kernel) (by decide +kernel)⟩

theorem tendrillaw14_ChainBack_ok : SigOk Try.prog 6 tendrillaw14_ChainBack_S ∧ Bodied Try.prog 6 :=
  ⟨fn_sound (s := tendrillaw14_ChainBack_S) (T := [(22, [1, 3, 4, 5, 6, 13, 15, 63, 64, 65])]) (Λ := tendrillaw14_ChainBack_Λ) 2000000 Try.func6 (c := bodyOf Try.f6) (by kernel_rfl) (by kernel_rfl) (lkΓ_cons (g := 8) (s0 := tendrillaw14_live_S) tendrillaw14_live_ok (lkΓ_cons (g := 9) (s0 := tendrillaw14_few_S) tendrillaw14_few_ok (lkΓ_cons (g := 10) (s0 := chain_Follow_S) chain_Follow_ok (lkΓ_cons (g := 14) (s0 := tendrilref02_Same_S) tendrilref02_Same_ok (lkΓ_cons (g := 17) (s0 := place_Node_S) place_Node_ok (lkΓ_cons (g := 18) (s0 := place_Size_S) place_Size_ok (lkΓ_cons (g := 19) (s0 := chain_Push_S) chain_Push_ok (lkΓ_cons (g := 20) (s0 := chain_Unlink_S) chain_Unlink_ok (lkΓ_flag (s0 := flagL) lkΓ_nil))))))))) (by decide +kernel) (by decide +kernel) tendrillaw14_ChainBack_Λ0 tendrillaw14_ChainBack_cuts (fun x => tendrillaw14_ChainBack_run 2000000 x), bodied_of Try.func6 (by decide +kernel) (by decide +kernel)⟩

theorem tendrillaw14_ChainOut_ok : SigOk Try.prog 7 tendrillaw14_ChainOut_S ∧ Bodied Try.prog 7 :=
  ⟨fn_sound (s := tendrillaw14_ChainOut_S) (T := []) (Λ := fun _ _ _ _ => none) 0 Try.func7 (c := bodyOf Try.f7) (by kernel_rfl) (by kernel_rfl) (lkΓ_cons (g := 8) (s0 := tendrillaw14_live_S) tendrillaw14_live_ok (lkΓ_cons (g := 9) (s0 := tendrillaw14_few_S) tendrillaw14_few_ok (lkΓ_cons (g := 10) (s0 := chain_Follow_S) chain_Follow_ok (lkΓ_cons (g := 14) (s0 := tendrilref02_Same_S) tendrilref02_Same_ok (lkΓ_cons (g := 17) (s0 := place_Node_S) place_Node_ok (lkΓ_cons (g := 18) (s0 := place_Size_S) place_Size_ok (lkΓ_cons (g := 20) (s0 := chain_Unlink_S) chain_Unlink_ok (lkΓ_flag (s0 := flagS) lkΓ_nil)))))))) (by decide +kernel) (by decide +kernel) (fun _ _ _ => rfl) tendrillaw14_ChainOut_cuts (fun x => tendrillaw14_ChainOut_run  x), bodied_of Try.func7 (by decide +kernel) (by decide +kernel)⟩

end Go.Proofs.YthnbleblmpnfhaaFn
