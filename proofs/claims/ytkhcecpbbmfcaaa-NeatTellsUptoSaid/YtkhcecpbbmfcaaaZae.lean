/- Facts on types, and which functions can be called. -/
import Derived.Test.YtkhcecpbbmfcaaaZad
import Derived.Test.YtkhcecpbbmfcaaaRows
set_option linter.unusedVariables false
set_option linter.unusedSimpArgs false
namespace Go.Proofs.Ytkhcecpbbmfcaaa
open Go.RowKit
theorem tKnown_3 : tKnown Try.prog 3 = true := by kernel_rfl
theorem tSize_3 : tSize Try.prog 3 = 1 := by kernel_rfl
theorem tAgg_3 : tAgg Try.prog 3 = false := by kernel_rfl
theorem tZok_3 : tZok Try.prog 3 = true := by kernel_rfl
theorem tZ_3 : tZ Try.prog 3 = [.int .i64 0] := by kernel_rfl
theorem tCS_3 : tCS Try.prog 3 = [0] := by kernel_rfl
theorem tBytes_3 : tBytes Try.prog 3 = 8 := by kernel_rfl
theorem tKnown_4 : tKnown Try.prog 4 = true := by kernel_rfl
theorem tSize_4 : tSize Try.prog 4 = 1 := by kernel_rfl
theorem tAgg_4 : tAgg Try.prog 4 = false := by kernel_rfl
theorem tCS_4 : tCS Try.prog 4 = [0] := by kernel_rfl
theorem tKnown_5 : tKnown Try.prog 5 = true := by kernel_rfl
theorem tSize_5 : tSize Try.prog 5 = 1 := by kernel_rfl
theorem tAgg_5 : tAgg Try.prog 5 = false := by kernel_rfl
theorem tZok_5 : tZok Try.prog 5 = true := by kernel_rfl
theorem tZ_5 : tZ Try.prog 5 = [.int .u8 0] := by kernel_rfl
theorem tCS_5 : tCS Try.prog 5 = [0] := by kernel_rfl
theorem tBytes_5 : tBytes Try.prog 5 = 1 := by kernel_rfl
theorem tZ1_5 : tZ1 Try.prog 5 = true := by kernel_rfl
theorem tKnown_9 : tKnown Try.prog 9 = true := by kernel_rfl
theorem tSize_9 : tSize Try.prog 9 = 1 := by kernel_rfl
theorem tAgg_9 : tAgg Try.prog 9 = false := by kernel_rfl
theorem tZok_9 : tZok Try.prog 9 = true := by kernel_rfl
theorem tZ_9 : tZ Try.prog 9 = [str []] := by kernel_rfl
theorem tCS_9 : tCS Try.prog 9 = [0] := by kernel_rfl
theorem tBytes_9 : tBytes Try.prog 9 = 16 := by kernel_rfl
theorem tNoIface_9 : tNoIface Try.prog 9 = true := by kernel_rfl
theorem tKnown_22 : tKnown Try.prog 22 = true := by kernel_rfl
theorem tSize_22 : tSize Try.prog 22 = 1 := by kernel_rfl
theorem tAgg_22 : tAgg Try.prog 22 = false := by kernel_rfl
theorem tCS_22 : tCS Try.prog 22 = [0] := by kernel_rfl
theorem tKnown_24 : tKnown Try.prog 24 = true := by kernel_rfl
theorem tSize_24 : tSize Try.prog 24 = 3 := by kernel_rfl
theorem tAgg_24 : tAgg Try.prog 24 = true := by kernel_rfl
theorem tZok_24 : tZok Try.prog 24 = true := by kernel_rfl
theorem tZ_24 : tZ Try.prog 24 = [.int .i64 0, .int .i64 0, .int .i64 0] := by kernel_rfl
theorem tCS_24 : tCS Try.prog 24 = [0, 0, 0] := by kernel_rfl
theorem tPlain_24 : tPlain Try.prog 24 = true := by kernel_rfl
theorem tFlat_24 : tFlat Try.prog 24 = true := by kernel_rfl
theorem tKinds_24 : tKinds Try.prog 24 = [1, 1, 1] := by kernel_rfl
theorem tStruct_24_0 : tStruct Try.prog 24 0 = true := by kernel_rfl
theorem tOff_24_0 : tOff Try.prog 24 0 = 0 := by kernel_rfl
theorem tFld_24_0 : tFld Try.prog 24 0 = 22 := by kernel_rfl
theorem tStruct_24_1 : tStruct Try.prog 24 1 = true := by kernel_rfl
theorem tOff_24_1 : tOff Try.prog 24 1 = 1 := by kernel_rfl
theorem tFld_24_1 : tFld Try.prog 24 1 = 3 := by kernel_rfl
theorem tStruct_24_2 : tStruct Try.prog 24 2 = true := by kernel_rfl
theorem tOff_24_2 : tOff Try.prog 24 2 = 2 := by kernel_rfl
theorem tFld_24_2 : tFld Try.prog 24 2 = 3 := by kernel_rfl
theorem tKnown_28 : tKnown Try.prog 28 = true := by kernel_rfl
theorem tSize_28 : tSize Try.prog 28 = 1 := by kernel_rfl
theorem tAgg_28 : tAgg Try.prog 28 = false := by kernel_rfl
theorem tCS_28 : tCS Try.prog 28 = [1] := by kernel_rfl
theorem tSlice_28 : tSlice Try.prog 28 = true := by kernel_rfl
theorem tElem_28 : tElem Try.prog 28 = 9 := by kernel_rfl
theorem arrTy0_28 : arrTy0 28 = false := by kernel_rfl
theorem arrTy_28 : arrTy 28 = false := by kernel_rfl
theorem tNilK_29 : tNilK Try.prog 29 = 1 := by kernel_rfl
theorem tSlice_29 : tSlice Try.prog 29 = true := by kernel_rfl
theorem tElem_29 : tElem Try.prog 29 = 32 := by kernel_rfl
theorem arrTy0_29 : arrTy0 29 = true := by kernel_rfl
theorem arrTy_29 : arrTy 29 = true := by kernel_rfl
theorem tKnown_30 : tKnown Try.prog 30 = true := by kernel_rfl
theorem tSize_30 : tSize Try.prog 30 = 1 := by kernel_rfl
theorem tAgg_30 : tAgg Try.prog 30 = false := by kernel_rfl
theorem tZok_30 : tZok Try.prog 30 = true := by kernel_rfl
theorem tZ_30 : tZ Try.prog 30 = [.slice none 0 0] := by kernel_rfl
theorem tCS_30 : tCS Try.prog 30 = [11] := by kernel_rfl
theorem tBytes_30 : tBytes Try.prog 30 = 24 := by kernel_rfl
theorem tSlice_30 : tSlice Try.prog 30 = true := by kernel_rfl
theorem tElem_30 : tElem Try.prog 30 = 45 := by kernel_rfl
theorem arrTy0_30 : arrTy0 30 = false := by kernel_rfl
theorem arrTy_30 : arrTy 30 = false := by kernel_rfl
theorem tKnown_32 : tKnown Try.prog 32 = true := by kernel_rfl
theorem tSize_32 : tSize Try.prog 32 = 5 := by kernel_rfl
theorem tAgg_32 : tAgg Try.prog 32 = true := by kernel_rfl
theorem tZok_32 : tZok Try.prog 32 = true := by kernel_rfl
theorem tZ_32 : tZ Try.prog 32 = [str [], .bool false, .slice none 0 0, .bool false, .slice none 0 0] := by kernel_rfl
theorem tCS_32 : tCS Try.prog 32 = [0, 0, 1, 0, 11] := by kernel_rfl
theorem tBytes_32 : tBytes Try.prog 32 = 80 := by kernel_rfl
theorem tPlain_32 : tPlain Try.prog 32 = true := by kernel_rfl
theorem tStruct_32_0 : tStruct Try.prog 32 0 = true := by kernel_rfl
theorem tOff_32_0 : tOff Try.prog 32 0 = 0 := by kernel_rfl
theorem tFld_32_0 : tFld Try.prog 32 0 = 9 := by kernel_rfl
theorem tStruct_32_1 : tStruct Try.prog 32 1 = true := by kernel_rfl
theorem tOff_32_1 : tOff Try.prog 32 1 = 1 := by kernel_rfl
theorem tFld_32_1 : tFld Try.prog 32 1 = 4 := by kernel_rfl
theorem tStruct_32_2 : tStruct Try.prog 32 2 = true := by kernel_rfl
theorem tOff_32_2 : tOff Try.prog 32 2 = 2 := by kernel_rfl
theorem tFld_32_2 : tFld Try.prog 32 2 = 28 := by kernel_rfl
theorem tStruct_32_3 : tStruct Try.prog 32 3 = true := by kernel_rfl
theorem tOff_32_3 : tOff Try.prog 32 3 = 3 := by kernel_rfl
theorem tFld_32_3 : tFld Try.prog 32 3 = 4 := by kernel_rfl
theorem tStruct_32_4 : tStruct Try.prog 32 4 = true := by kernel_rfl
theorem tOff_32_4 : tOff Try.prog 32 4 = 4 := by kernel_rfl
theorem tFld_32_4 : tFld Try.prog 32 4 = 30 := by kernel_rfl
theorem tKnown_43 : tKnown Try.prog 43 = true := by kernel_rfl
theorem tSize_43 : tSize Try.prog 43 = 1 := by kernel_rfl
theorem tAgg_43 : tAgg Try.prog 43 = false := by kernel_rfl
theorem tCS_43 : tCS Try.prog 43 = [3] := by kernel_rfl
theorem tSlice_43 : tSlice Try.prog 43 = true := by kernel_rfl
theorem tElem_43 : tElem Try.prog 43 = 86 := by kernel_rfl
theorem tKnown_45 : tKnown Try.prog 45 = true := by kernel_rfl
theorem tSize_45 : tSize Try.prog 45 = 11 := by kernel_rfl
theorem tAgg_45 : tAgg Try.prog 45 = true := by kernel_rfl
theorem tZok_45 : tZok Try.prog 45 = true := by kernel_rfl
theorem tZ_45 : tZ Try.prog 45 = [.int .i64 0, str [], .bool false, .bool false, .int .i64 0, .int .i64 0, .int .i64 0, .int .i64 0, .slice none 0 0, .slice none 0 0, .int .i64 0] := by kernel_rfl
theorem tCS_45 : tCS Try.prog 45 = [0, 0, 0, 0, 0, 0, 0, 0, 1, 3, 0] := by kernel_rfl
theorem tBytes_45 : tBytes Try.prog 45 = 120 := by kernel_rfl
theorem tPlain_45 : tPlain Try.prog 45 = true := by kernel_rfl
theorem tStruct_45_0 : tStruct Try.prog 45 0 = true := by kernel_rfl
theorem tOff_45_0 : tOff Try.prog 45 0 = 0 := by kernel_rfl
theorem tFld_45_0 : tFld Try.prog 45 0 = 3 := by kernel_rfl
theorem tStruct_45_1 : tStruct Try.prog 45 1 = true := by kernel_rfl
theorem tOff_45_1 : tOff Try.prog 45 1 = 1 := by kernel_rfl
theorem tFld_45_1 : tFld Try.prog 45 1 = 9 := by kernel_rfl
theorem tStruct_45_2 : tStruct Try.prog 45 2 = true := by kernel_rfl
theorem tOff_45_2 : tOff Try.prog 45 2 = 2 := by kernel_rfl
theorem tFld_45_2 : tFld Try.prog 45 2 = 4 := by kernel_rfl
theorem tStruct_45_3 : tStruct Try.prog 45 3 = true := by kernel_rfl
theorem tOff_45_3 : tOff Try.prog 45 3 = 3 := by kernel_rfl
theorem tFld_45_3 : tFld Try.prog 45 3 = 4 := by kernel_rfl
theorem tStruct_45_4 : tStruct Try.prog 45 4 = true := by kernel_rfl
theorem tOff_45_4 : tOff Try.prog 45 4 = 4 := by kernel_rfl
theorem tFld_45_4 : tFld Try.prog 45 4 = 3 := by kernel_rfl
theorem tStruct_45_5 : tStruct Try.prog 45 5 = true := by kernel_rfl
theorem tOff_45_5 : tOff Try.prog 45 5 = 5 := by kernel_rfl
theorem tFld_45_5 : tFld Try.prog 45 5 = 3 := by kernel_rfl
theorem tStruct_45_6 : tStruct Try.prog 45 6 = true := by kernel_rfl
theorem tOff_45_6 : tOff Try.prog 45 6 = 6 := by kernel_rfl
theorem tFld_45_6 : tFld Try.prog 45 6 = 3 := by kernel_rfl
theorem tStruct_45_7 : tStruct Try.prog 45 7 = true := by kernel_rfl
theorem tOff_45_7 : tOff Try.prog 45 7 = 7 := by kernel_rfl
theorem tFld_45_7 : tFld Try.prog 45 7 = 3 := by kernel_rfl
theorem tStruct_45_8 : tStruct Try.prog 45 8 = true := by kernel_rfl
theorem tOff_45_8 : tOff Try.prog 45 8 = 8 := by kernel_rfl
theorem tFld_45_8 : tFld Try.prog 45 8 = 28 := by kernel_rfl
theorem tStruct_45_9 : tStruct Try.prog 45 9 = true := by kernel_rfl
theorem tOff_45_9 : tOff Try.prog 45 9 = 9 := by kernel_rfl
theorem tFld_45_9 : tFld Try.prog 45 9 = 43 := by kernel_rfl
theorem tStruct_45_10 : tStruct Try.prog 45 10 = true := by kernel_rfl
theorem tOff_45_10 : tOff Try.prog 45 10 = 10 := by kernel_rfl
theorem tFld_45_10 : tFld Try.prog 45 10 = 3 := by kernel_rfl
theorem tKnown_56 : tKnown Try.prog 56 = true := by kernel_rfl
theorem tSize_56 : tSize Try.prog 56 = 1 := by kernel_rfl
theorem tAgg_56 : tAgg Try.prog 56 = false := by kernel_rfl
theorem tCS_56 : tCS Try.prog 56 = [0] := by kernel_rfl
theorem tNilK_56 : tNilK Try.prog 56 = 2 := by kernel_rfl
theorem tKnown_57 : tKnown Try.prog 57 = true := by kernel_rfl
theorem tSize_57 : tSize Try.prog 57 = 1 := by kernel_rfl
theorem tAgg_57 : tAgg Try.prog 57 = false := by kernel_rfl
theorem tCS_57 : tCS Try.prog 57 = [1] := by kernel_rfl
theorem tSlice_57 : tSlice Try.prog 57 = true := by kernel_rfl
theorem tElem_57 : tElem Try.prog 57 = 5 := by kernel_rfl
theorem arrTy0_57 : arrTy0 57 = false := by kernel_rfl
theorem arrTy_57 : arrTy 57 = true := by kernel_rfl
theorem tZok_59 : tZok Try.prog 59 = true := by kernel_rfl
theorem tZ_59 : tZ Try.prog 59 = [.pointer none, .slice none 0 0] := by kernel_rfl
theorem tCS_59 : tCS Try.prog 59 = [0, 1] := by kernel_rfl
theorem tStruct_59_0 : tStruct Try.prog 59 0 = true := by kernel_rfl
theorem tOff_59_0 : tOff Try.prog 59 0 = 0 := by kernel_rfl
theorem tFld_59_0 : tFld Try.prog 59 0 = 56 := by kernel_rfl
theorem tStruct_59_1 : tStruct Try.prog 59 1 = true := by kernel_rfl
theorem tOff_59_1 : tOff Try.prog 59 1 = 1 := by kernel_rfl
theorem tFld_59_1 : tFld Try.prog 59 1 = 57 := by kernel_rfl
theorem tSlice_60 : tSlice Try.prog 60 = true := by kernel_rfl
theorem tElem_60 : tElem Try.prog 60 = 30 := by kernel_rfl
theorem arrTy0_60 : arrTy0 60 = false := by kernel_rfl
theorem arrTy_60 : arrTy 60 = true := by kernel_rfl
theorem tKnown_86 : tKnown Try.prog 86 = true := by kernel_rfl
theorem tSize_86 : tSize Try.prog 86 = 3 := by kernel_rfl
theorem tAgg_86 : tAgg Try.prog 86 = true := by kernel_rfl
theorem tZok_86 : tZok Try.prog 86 = true := by kernel_rfl
theorem tZ_86 : tZ Try.prog 86 = [str [], .int .i64 0, .int .i64 0] := by kernel_rfl
theorem tCS_86 : tCS Try.prog 86 = [0, 0, 0] := by kernel_rfl
theorem tBytes_86 : tBytes Try.prog 86 = 32 := by kernel_rfl
theorem tFlat_86 : tFlat Try.prog 86 = true := by kernel_rfl
theorem tKinds_86 : tKinds Try.prog 86 = [2, 1, 1] := by kernel_rfl
theorem tKnown_88 : tKnown Try.prog 88 = true := by kernel_rfl
theorem tSize_88 : tSize Try.prog 88 = 1 := by kernel_rfl
theorem tAgg_88 : tAgg Try.prog 88 = false := by kernel_rfl
theorem tCS_88 : tCS Try.prog 88 = [1] := by kernel_rfl
theorem tSlice_88 : tSlice Try.prog 88 = true := by kernel_rfl
theorem tElem_88 : tElem Try.prog 88 = 3 := by kernel_rfl
theorem arrTy0_88 : arrTy0 88 = false := by kernel_rfl
theorem arrTy_88 : arrTy 88 = false := by kernel_rfl
theorem tKnown_90 : tKnown Try.prog 90 = true := by kernel_rfl
theorem tSize_90 : tSize Try.prog 90 = 2 := by kernel_rfl
theorem tAgg_90 : tAgg Try.prog 90 = true := by kernel_rfl
theorem tZok_90 : tZok Try.prog 90 = true := by kernel_rfl
theorem tZ_90 : tZ Try.prog 90 = [str [], .slice none 0 0] := by kernel_rfl
theorem tCS_90 : tCS Try.prog 90 = [0, 1] := by kernel_rfl
theorem tPlain_90 : tPlain Try.prog 90 = true := by kernel_rfl
theorem tStruct_90_0 : tStruct Try.prog 90 0 = true := by kernel_rfl
theorem tOff_90_0 : tOff Try.prog 90 0 = 0 := by kernel_rfl
theorem tFld_90_0 : tFld Try.prog 90 0 = 9 := by kernel_rfl
theorem tStruct_90_1 : tStruct Try.prog 90 1 = true := by kernel_rfl
theorem tOff_90_1 : tOff Try.prog 90 1 = 1 := by kernel_rfl
theorem tFld_90_1 : tFld Try.prog 90 1 = 88 := by kernel_rfl
theorem tZok_99 : tZok Try.prog 99 = true := by kernel_rfl
theorem tZ_99 : tZ Try.prog 99 = [str [], .slice none 0 0, str [], .int .i64 0, .int .i64 0, .slice none 0 0] := by kernel_rfl
theorem tCS_99 : tCS Try.prog 99 = [0, 1, 0, 0, 0, 11] := by kernel_rfl
theorem tPlain_99 : tPlain Try.prog 99 = true := by kernel_rfl
theorem tStruct_99_0 : tStruct Try.prog 99 0 = true := by kernel_rfl
theorem tOff_99_0 : tOff Try.prog 99 0 = 0 := by kernel_rfl
theorem tFld_99_0 : tFld Try.prog 99 0 = 90 := by kernel_rfl
theorem tStruct_99_1 : tStruct Try.prog 99 1 = true := by kernel_rfl
theorem tOff_99_1 : tOff Try.prog 99 1 = 2 := by kernel_rfl
theorem tFld_99_1 : tFld Try.prog 99 1 = 9 := by kernel_rfl
theorem tStruct_99_2 : tStruct Try.prog 99 2 = true := by kernel_rfl
theorem tOff_99_2 : tOff Try.prog 99 2 = 3 := by kernel_rfl
theorem tFld_99_2 : tFld Try.prog 99 2 = 3 := by kernel_rfl
theorem tStruct_99_3 : tStruct Try.prog 99 3 = true := by kernel_rfl
theorem tOff_99_3 : tOff Try.prog 99 3 = 4 := by kernel_rfl
theorem tFld_99_3 : tFld Try.prog 99 3 = 3 := by kernel_rfl
theorem tStruct_99_4 : tStruct Try.prog 99 4 = true := by kernel_rfl
theorem tOff_99_4 : tOff Try.prog 99 4 = 5 := by kernel_rfl
theorem tFld_99_4 : tFld Try.prog 99 4 = 30 := by kernel_rfl
theorem y_3 : ((((type_of% @Try.underlying3) ∧ (type_of% @tAgg_3)) ∧ ((type_of% @tBytes_3) ∧ (type_of% @tCS_3))) ∧ (((type_of% @tKnown_3) ∧ (type_of% @tSize_3)) ∧ ((type_of% @tZ_3) ∧ (type_of% @tZok_3)))) := ⟨⟨⟨@Try.underlying3, @tAgg_3⟩, ⟨@tBytes_3, @tCS_3⟩⟩, ⟨⟨@tKnown_3, @tSize_3⟩, ⟨@tZ_3, @tZok_3⟩⟩⟩
theorem y_4 : (((type_of% @Try.underlying4) ∧ (type_of% @tAgg_4)) ∧ ((type_of% @tCS_4) ∧ ((type_of% @tKnown_4) ∧ (type_of% @tSize_4)))) := ⟨⟨@Try.underlying4, @tAgg_4⟩, ⟨@tCS_4, ⟨@tKnown_4, @tSize_4⟩⟩⟩
theorem y_5 : ((((type_of% @Try.underlying5) ∧ (type_of% @tAgg_5)) ∧ ((type_of% @tBytes_5) ∧ (type_of% @tCS_5))) ∧ (((type_of% @tKnown_5) ∧ (type_of% @tSize_5)) ∧ ((type_of% @tZ1_5) ∧ ((type_of% @tZ_5) ∧ (type_of% @tZok_5))))) := ⟨⟨⟨@Try.underlying5, @tAgg_5⟩, ⟨@tBytes_5, @tCS_5⟩⟩, ⟨⟨@tKnown_5, @tSize_5⟩, ⟨@tZ1_5, ⟨@tZ_5, @tZok_5⟩⟩⟩⟩
theorem y_9 : ((((type_of% @Try.underlying9) ∧ (type_of% @tAgg_9)) ∧ ((type_of% @tBytes_9) ∧ (type_of% @tCS_9))) ∧ (((type_of% @tKnown_9) ∧ (type_of% @tNoIface_9)) ∧ ((type_of% @tSize_9) ∧ ((type_of% @tZ_9) ∧ (type_of% @tZok_9))))) := ⟨⟨⟨@Try.underlying9, @tAgg_9⟩, ⟨@tBytes_9, @tCS_9⟩⟩, ⟨⟨@tKnown_9, @tNoIface_9⟩, ⟨@tSize_9, ⟨@tZ_9, @tZok_9⟩⟩⟩⟩
theorem y_22 : (((type_of% @tAgg_22) ∧ (type_of% @tCS_22)) ∧ ((type_of% @tKnown_22) ∧ (type_of% @tSize_22))) := ⟨⟨@tAgg_22, @tCS_22⟩, ⟨@tKnown_22, @tSize_22⟩⟩
theorem y_24 : (((((type_of% @tAgg_24) ∧ (type_of% @tCS_24)) ∧ ((type_of% @tFlat_24) ∧ (type_of% @tFld_24_0))) ∧ (((type_of% @tFld_24_1) ∧ (type_of% @tFld_24_2)) ∧ ((type_of% @tKinds_24) ∧ ((type_of% @tKnown_24) ∧ (type_of% @tOff_24_0))))) ∧ ((((type_of% @tOff_24_1) ∧ (type_of% @tOff_24_2)) ∧ ((type_of% @tPlain_24) ∧ (type_of% @tSize_24))) ∧ (((type_of% @tStruct_24_0) ∧ (type_of% @tStruct_24_1)) ∧ ((type_of% @tStruct_24_2) ∧ ((type_of% @tZ_24) ∧ (type_of% @tZok_24)))))) := ⟨⟨⟨⟨@tAgg_24, @tCS_24⟩, ⟨@tFlat_24, @tFld_24_0⟩⟩, ⟨⟨@tFld_24_1, @tFld_24_2⟩, ⟨@tKinds_24, ⟨@tKnown_24, @tOff_24_0⟩⟩⟩⟩, ⟨⟨⟨@tOff_24_1, @tOff_24_2⟩, ⟨@tPlain_24, @tSize_24⟩⟩, ⟨⟨@tStruct_24_0, @tStruct_24_1⟩, ⟨@tStruct_24_2, ⟨@tZ_24, @tZok_24⟩⟩⟩⟩⟩
theorem y_28 : ((((type_of% @arrTy0_28) ∧ (type_of% @arrTy_28)) ∧ ((type_of% @tAgg_28) ∧ (type_of% @tCS_28))) ∧ (((type_of% @tElem_28) ∧ (type_of% @tKnown_28)) ∧ ((type_of% @tSize_28) ∧ (type_of% @tSlice_28)))) := ⟨⟨⟨@arrTy0_28, @arrTy_28⟩, ⟨@tAgg_28, @tCS_28⟩⟩, ⟨⟨@tElem_28, @tKnown_28⟩, ⟨@tSize_28, @tSlice_28⟩⟩⟩
theorem y_29 : (((type_of% @arrTy0_29) ∧ (type_of% @arrTy_29)) ∧ ((type_of% @tElem_29) ∧ ((type_of% @tNilK_29) ∧ (type_of% @tSlice_29)))) := ⟨⟨@arrTy0_29, @arrTy_29⟩, ⟨@tElem_29, ⟨@tNilK_29, @tSlice_29⟩⟩⟩
theorem y_30 : ((((type_of% @arrTy0_30) ∧ (type_of% @arrTy_30)) ∧ ((type_of% @tAgg_30) ∧ ((type_of% @tBytes_30) ∧ (type_of% @tCS_30)))) ∧ (((type_of% @tElem_30) ∧ ((type_of% @tKnown_30) ∧ (type_of% @tSize_30))) ∧ ((type_of% @tSlice_30) ∧ ((type_of% @tZ_30) ∧ (type_of% @tZok_30))))) := ⟨⟨⟨@arrTy0_30, @arrTy_30⟩, ⟨@tAgg_30, ⟨@tBytes_30, @tCS_30⟩⟩⟩, ⟨⟨@tElem_30, ⟨@tKnown_30, @tSize_30⟩⟩, ⟨@tSlice_30, ⟨@tZ_30, @tZok_30⟩⟩⟩⟩
theorem y_32 : (((((type_of% @tAgg_32) ∧ (type_of% @tBytes_32)) ∧ ((type_of% @tCS_32) ∧ ((type_of% @tFld_32_0) ∧ (type_of% @tFld_32_1)))) ∧ (((type_of% @tFld_32_2) ∧ ((type_of% @tFld_32_3) ∧ (type_of% @tFld_32_4))) ∧ ((type_of% @tKnown_32) ∧ ((type_of% @tOff_32_0) ∧ (type_of% @tOff_32_1))))) ∧ ((((type_of% @tOff_32_2) ∧ ((type_of% @tOff_32_3) ∧ (type_of% @tOff_32_4))) ∧ ((type_of% @tPlain_32) ∧ ((type_of% @tSize_32) ∧ (type_of% @tStruct_32_0)))) ∧ (((type_of% @tStruct_32_1) ∧ ((type_of% @tStruct_32_2) ∧ (type_of% @tStruct_32_3))) ∧ ((type_of% @tStruct_32_4) ∧ ((type_of% @tZ_32) ∧ (type_of% @tZok_32)))))) := ⟨⟨⟨⟨@tAgg_32, @tBytes_32⟩, ⟨@tCS_32, ⟨@tFld_32_0, @tFld_32_1⟩⟩⟩, ⟨⟨@tFld_32_2, ⟨@tFld_32_3, @tFld_32_4⟩⟩, ⟨@tKnown_32, ⟨@tOff_32_0, @tOff_32_1⟩⟩⟩⟩, ⟨⟨⟨@tOff_32_2, ⟨@tOff_32_3, @tOff_32_4⟩⟩, ⟨@tPlain_32, ⟨@tSize_32, @tStruct_32_0⟩⟩⟩, ⟨⟨@tStruct_32_1, ⟨@tStruct_32_2, @tStruct_32_3⟩⟩, ⟨@tStruct_32_4, ⟨@tZ_32, @tZok_32⟩⟩⟩⟩⟩
theorem y_43 : (((type_of% @tAgg_43) ∧ ((type_of% @tCS_43) ∧ (type_of% @tElem_43))) ∧ ((type_of% @tKnown_43) ∧ ((type_of% @tSize_43) ∧ (type_of% @tSlice_43)))) := ⟨⟨@tAgg_43, ⟨@tCS_43, @tElem_43⟩⟩, ⟨@tKnown_43, ⟨@tSize_43, @tSlice_43⟩⟩⟩
theorem y_45 : ((((((type_of% @tAgg_45) ∧ (type_of% @tBytes_45)) ∧ ((type_of% @tCS_45) ∧ ((type_of% @tFld_45_0) ∧ (type_of% @tFld_45_1)))) ∧ (((type_of% @tFld_45_10) ∧ (type_of% @tFld_45_2)) ∧ ((type_of% @tFld_45_3) ∧ ((type_of% @tFld_45_4) ∧ (type_of% @tFld_45_5))))) ∧ ((((type_of% @tFld_45_6) ∧ (type_of% @tFld_45_7)) ∧ ((type_of% @tFld_45_8) ∧ ((type_of% @tFld_45_9) ∧ (type_of% @tKnown_45)))) ∧ (((type_of% @tOff_45_0) ∧ (type_of% @tOff_45_1)) ∧ ((type_of% @tOff_45_10) ∧ ((type_of% @tOff_45_2) ∧ (type_of% @tOff_45_3)))))) ∧ (((((type_of% @tOff_45_4) ∧ (type_of% @tOff_45_5)) ∧ ((type_of% @tOff_45_6) ∧ ((type_of% @tOff_45_7) ∧ (type_of% @tOff_45_8)))) ∧ (((type_of% @tOff_45_9) ∧ (type_of% @tPlain_45)) ∧ ((type_of% @tSize_45) ∧ ((type_of% @tStruct_45_0) ∧ (type_of% @tStruct_45_1))))) ∧ ((((type_of% @tStruct_45_10) ∧ (type_of% @tStruct_45_2)) ∧ ((type_of% @tStruct_45_3) ∧ ((type_of% @tStruct_45_4) ∧ (type_of% @tStruct_45_5)))) ∧ (((type_of% @tStruct_45_6) ∧ ((type_of% @tStruct_45_7) ∧ (type_of% @tStruct_45_8))) ∧ ((type_of% @tStruct_45_9) ∧ ((type_of% @tZ_45) ∧ (type_of% @tZok_45))))))) := ⟨⟨⟨⟨⟨@tAgg_45, @tBytes_45⟩, ⟨@tCS_45, ⟨@tFld_45_0, @tFld_45_1⟩⟩⟩, ⟨⟨@tFld_45_10, @tFld_45_2⟩, ⟨@tFld_45_3, ⟨@tFld_45_4, @tFld_45_5⟩⟩⟩⟩, ⟨⟨⟨@tFld_45_6, @tFld_45_7⟩, ⟨@tFld_45_8, ⟨@tFld_45_9, @tKnown_45⟩⟩⟩, ⟨⟨@tOff_45_0, @tOff_45_1⟩, ⟨@tOff_45_10, ⟨@tOff_45_2, @tOff_45_3⟩⟩⟩⟩⟩, ⟨⟨⟨⟨@tOff_45_4, @tOff_45_5⟩, ⟨@tOff_45_6, ⟨@tOff_45_7, @tOff_45_8⟩⟩⟩, ⟨⟨@tOff_45_9, @tPlain_45⟩, ⟨@tSize_45, ⟨@tStruct_45_0, @tStruct_45_1⟩⟩⟩⟩, ⟨⟨⟨@tStruct_45_10, @tStruct_45_2⟩, ⟨@tStruct_45_3, ⟨@tStruct_45_4, @tStruct_45_5⟩⟩⟩, ⟨⟨@tStruct_45_6, ⟨@tStruct_45_7, @tStruct_45_8⟩⟩, ⟨@tStruct_45_9, ⟨@tZ_45, @tZok_45⟩⟩⟩⟩⟩⟩
theorem y_56 : (((type_of% @Try.underlying56) ∧ ((type_of% @tAgg_56) ∧ (type_of% @tCS_56))) ∧ ((type_of% @tKnown_56) ∧ ((type_of% @tNilK_56) ∧ (type_of% @tSize_56)))) := ⟨⟨@Try.underlying56, ⟨@tAgg_56, @tCS_56⟩⟩, ⟨@tKnown_56, ⟨@tNilK_56, @tSize_56⟩⟩⟩
theorem y_57 : ((((type_of% @Try.underlying57) ∧ (type_of% @arrTy0_57)) ∧ ((type_of% @arrTy_57) ∧ (type_of% @tAgg_57))) ∧ (((type_of% @tCS_57) ∧ (type_of% @tElem_57)) ∧ ((type_of% @tKnown_57) ∧ ((type_of% @tSize_57) ∧ (type_of% @tSlice_57))))) := ⟨⟨⟨@Try.underlying57, @arrTy0_57⟩, ⟨@arrTy_57, @tAgg_57⟩⟩, ⟨⟨@tCS_57, @tElem_57⟩, ⟨@tKnown_57, ⟨@tSize_57, @tSlice_57⟩⟩⟩⟩
theorem y_59 : ((((type_of% @Try.underlying59) ∧ (type_of% @tCS_59)) ∧ ((type_of% @tFld_59_0) ∧ ((type_of% @tFld_59_1) ∧ (type_of% @tOff_59_0)))) ∧ (((type_of% @tOff_59_1) ∧ (type_of% @tStruct_59_0)) ∧ ((type_of% @tStruct_59_1) ∧ ((type_of% @tZ_59) ∧ (type_of% @tZok_59))))) := ⟨⟨⟨@Try.underlying59, @tCS_59⟩, ⟨@tFld_59_0, ⟨@tFld_59_1, @tOff_59_0⟩⟩⟩, ⟨⟨@tOff_59_1, @tStruct_59_0⟩, ⟨@tStruct_59_1, ⟨@tZ_59, @tZok_59⟩⟩⟩⟩
theorem y_60 : (((type_of% @arrTy0_60) ∧ (type_of% @arrTy_60)) ∧ ((type_of% @tElem_60) ∧ (type_of% @tSlice_60))) := ⟨⟨@arrTy0_60, @arrTy_60⟩, ⟨@tElem_60, @tSlice_60⟩⟩
theorem y_86 : ((((type_of% @tAgg_86) ∧ (type_of% @tBytes_86)) ∧ ((type_of% @tCS_86) ∧ (type_of% @tFlat_86))) ∧ (((type_of% @tKinds_86) ∧ (type_of% @tKnown_86)) ∧ ((type_of% @tSize_86) ∧ ((type_of% @tZ_86) ∧ (type_of% @tZok_86))))) := ⟨⟨⟨@tAgg_86, @tBytes_86⟩, ⟨@tCS_86, @tFlat_86⟩⟩, ⟨⟨@tKinds_86, @tKnown_86⟩, ⟨@tSize_86, ⟨@tZ_86, @tZok_86⟩⟩⟩⟩
theorem y_88 : ((((type_of% @arrTy0_88) ∧ (type_of% @arrTy_88)) ∧ ((type_of% @tAgg_88) ∧ (type_of% @tCS_88))) ∧ (((type_of% @tElem_88) ∧ (type_of% @tKnown_88)) ∧ ((type_of% @tSize_88) ∧ (type_of% @tSlice_88)))) := ⟨⟨⟨@arrTy0_88, @arrTy_88⟩, ⟨@tAgg_88, @tCS_88⟩⟩, ⟨⟨@tElem_88, @tKnown_88⟩, ⟨@tSize_88, @tSlice_88⟩⟩⟩
theorem y_90 : ((((type_of% @tAgg_90) ∧ ((type_of% @tCS_90) ∧ (type_of% @tFld_90_0))) ∧ ((type_of% @tFld_90_1) ∧ ((type_of% @tKnown_90) ∧ (type_of% @tOff_90_0)))) ∧ (((type_of% @tOff_90_1) ∧ ((type_of% @tPlain_90) ∧ (type_of% @tSize_90))) ∧ (((type_of% @tStruct_90_0) ∧ (type_of% @tStruct_90_1)) ∧ ((type_of% @tZ_90) ∧ (type_of% @tZok_90))))) := ⟨⟨⟨@tAgg_90, ⟨@tCS_90, @tFld_90_0⟩⟩, ⟨@tFld_90_1, ⟨@tKnown_90, @tOff_90_0⟩⟩⟩, ⟨⟨@tOff_90_1, ⟨@tPlain_90, @tSize_90⟩⟩, ⟨⟨@tStruct_90_0, @tStruct_90_1⟩, ⟨@tZ_90, @tZok_90⟩⟩⟩⟩
theorem y_99 : (((((type_of% @tCS_99) ∧ (type_of% @tFld_99_0)) ∧ ((type_of% @tFld_99_1) ∧ (type_of% @tFld_99_2))) ∧ (((type_of% @tFld_99_3) ∧ (type_of% @tFld_99_4)) ∧ ((type_of% @tOff_99_0) ∧ ((type_of% @tOff_99_1) ∧ (type_of% @tOff_99_2))))) ∧ ((((type_of% @tOff_99_3) ∧ (type_of% @tOff_99_4)) ∧ ((type_of% @tPlain_99) ∧ ((type_of% @tStruct_99_0) ∧ (type_of% @tStruct_99_1)))) ∧ (((type_of% @tStruct_99_2) ∧ (type_of% @tStruct_99_3)) ∧ ((type_of% @tStruct_99_4) ∧ ((type_of% @tZ_99) ∧ (type_of% @tZok_99)))))) := ⟨⟨⟨⟨@tCS_99, @tFld_99_0⟩, ⟨@tFld_99_1, @tFld_99_2⟩⟩, ⟨⟨@tFld_99_3, @tFld_99_4⟩, ⟨@tOff_99_0, ⟨@tOff_99_1, @tOff_99_2⟩⟩⟩⟩, ⟨⟨⟨@tOff_99_3, @tOff_99_4⟩, ⟨@tPlain_99, ⟨@tStruct_99_0, @tStruct_99_1⟩⟩⟩, ⟨⟨@tStruct_99_2, @tStruct_99_3⟩, ⟨@tStruct_99_4, ⟨@tZ_99, @tZok_99⟩⟩⟩⟩⟩
theorem y_105 : (type_of% @Try.underlying105) := @Try.underlying105
theorem y_115 : (type_of% @Try.underlying115) := @Try.underlying115
theorem y_117 : (type_of% @Try.underlying117) := @Try.underlying117
theorem y_120 : (type_of% @Try.underlying120) := @Try.underlying120
theorem call_8 : Callable Try.prog 8 := callable_of Try.func8 (by kernel_rfl) (by kernel_rfl)
theorem call_9 : Callable Try.prog 9 := callable_of Try.func9 (by kernel_rfl) (by kernel_rfl)
theorem call_10 : Callable Try.prog 10 := callable_of Try.func10 (by kernel_rfl) (by kernel_rfl)
theorem call_11 : Callable Try.prog 11 := callable_of Try.func11 (by kernel_rfl) (by kernel_rfl)
theorem call_12 : Callable Try.prog 12 := callable_of Try.func12 (by kernel_rfl) (by kernel_rfl)
theorem call_13 : Callable Try.prog 13 := callable_of Try.func13 (by kernel_rfl) (by kernel_rfl)
theorem call_14 : Callable Try.prog 14 := callable_of Try.func14 (by kernel_rfl) (by kernel_rfl)
theorem call_15 : Callable Try.prog 15 := callable_of Try.func15 (by kernel_rfl) (by kernel_rfl)
theorem call_16 : Callable Try.prog 16 := callable_of Try.func16 (by kernel_rfl) (by kernel_rfl)
theorem call_17 : Callable Try.prog 17 := callable_of Try.func17 (by kernel_rfl) (by kernel_rfl)
theorem call_18 : Callable Try.prog 18 := callable_of Try.func18 (by kernel_rfl) (by kernel_rfl)
theorem call_19 : Callable Try.prog 19 := callable_of Try.func19 (by kernel_rfl) (by kernel_rfl)
theorem call_20 : Callable Try.prog 20 := callable_of Try.func20 (by kernel_rfl) (by kernel_rfl)
theorem call_21 : Callable Try.prog 21 := callable_of Try.func21 (by kernel_rfl) (by kernel_rfl)
theorem call_22 : Callable Try.prog 22 := callable_of Try.func22 (by kernel_rfl) (by kernel_rfl)
theorem call_23 : Callable Try.prog 23 := callable_of Try.func23 (by kernel_rfl) (by kernel_rfl)
theorem call_24 : Callable Try.prog 24 := callable_of Try.func24 (by kernel_rfl) (by kernel_rfl)
theorem call_25 : Callable Try.prog 25 := callable_of Try.func25 (by kernel_rfl) (by kernel_rfl)
theorem call_26 : Callable Try.prog 26 := callable_of Try.func26 (by kernel_rfl) (by kernel_rfl)
theorem call_27 : Callable Try.prog 27 := callable_of Try.func27 (by kernel_rfl) (by kernel_rfl)
theorem call_28 : Callable Try.prog 28 := callable_of Try.func28 (by kernel_rfl) (by kernel_rfl)
theorem call_29 : Callable Try.prog 29 := callable_of Try.func29 (by kernel_rfl) (by kernel_rfl)
theorem call_30 : Callable Try.prog 30 := callable_of Try.func30 (by kernel_rfl) (by kernel_rfl)
theorem call_31 : Callable Try.prog 31 := callable_of Try.func31 (by kernel_rfl) (by kernel_rfl)
theorem call_32 : Callable Try.prog 32 := callable_of Try.func32 (by kernel_rfl) (by kernel_rfl)
theorem call_33 : Callable Try.prog 33 := callable_of Try.func33 (by kernel_rfl) (by kernel_rfl)
theorem call_34 : Callable Try.prog 34 := callable_of Try.func34 (by kernel_rfl) (by kernel_rfl)
theorem call_35 : Callable Try.prog 35 := callable_of Try.func35 (by kernel_rfl) (by kernel_rfl)
theorem call_36 : Callable Try.prog 36 := callable_of Try.func36 (by kernel_rfl) (by kernel_rfl)
theorem call_37 : Callable Try.prog 37 := callable_of Try.func37 (by kernel_rfl) (by kernel_rfl)
theorem call_38 : Callable Try.prog 38 := callable_of Try.func38 (by kernel_rfl) (by kernel_rfl)
theorem call_39 : Callable Try.prog 39 := callable_of Try.func39 (by kernel_rfl) (by kernel_rfl)
theorem call_40 : Callable Try.prog 40 := callable_of Try.func40 (by kernel_rfl) (by kernel_rfl)
theorem call_41 : Callable Try.prog 41 := callable_of Try.func41 (by kernel_rfl) (by kernel_rfl)
theorem call_42 : Callable Try.prog 42 := callable_of Try.func42 (by kernel_rfl) (by kernel_rfl)
theorem call_43 : Callable Try.prog 43 := callable_of Try.func43 (by kernel_rfl) (by kernel_rfl)
theorem call_44 : Callable Try.prog 44 := callable_of Try.func44 (by kernel_rfl) (by kernel_rfl)
theorem call_45 : Callable Try.prog 45 := callable_of Try.func45 (by kernel_rfl) (by kernel_rfl)
theorem call_46 : Callable Try.prog 46 := callable_of Try.func46 (by kernel_rfl) (by kernel_rfl)
theorem call_47 : Callable Try.prog 47 := callable_of Try.func47 (by kernel_rfl) (by kernel_rfl)
theorem call_48 : Callable Try.prog 48 := callable_of Try.func48 (by kernel_rfl) (by kernel_rfl)
theorem call_49 : Callable Try.prog 49 := callable_of Try.func49 (by kernel_rfl) (by kernel_rfl)
theorem call_50 : Callable Try.prog 50 := callable_of Try.func50 (by kernel_rfl) (by kernel_rfl)
theorem call_51 : Callable Try.prog 51 := callable_of Try.func51 (by kernel_rfl) (by kernel_rfl)
theorem call_52 : Callable Try.prog 52 := callable_of Try.func52 (by kernel_rfl) (by kernel_rfl)
theorem call_53 : Callable Try.prog 53 := callable_of Try.func53 (by kernel_rfl) (by kernel_rfl)
theorem call_54 : Callable Try.prog 54 := callable_of Try.func54 (by kernel_rfl) (by kernel_rfl)
theorem call_55 : Callable Try.prog 55 := callable_of Try.func55 (by kernel_rfl) (by kernel_rfl)
theorem call_56 : Callable Try.prog 56 := callable_of Try.func56 (by kernel_rfl) (by kernel_rfl)
theorem call_57 : Callable Try.prog 57 := callable_of Try.func57 (by kernel_rfl) (by kernel_rfl)
theorem call_58 : Callable Try.prog 58 := callable_of Try.func58 (by kernel_rfl) (by kernel_rfl)
theorem call_59 : Callable Try.prog 59 := callable_of Try.func59 (by kernel_rfl) (by kernel_rfl)
theorem call_60 : Callable Try.prog 60 := callable_of Try.func60 (by kernel_rfl) (by kernel_rfl)
theorem call_61 : Callable Try.prog 61 := callable_of Try.func61 (by kernel_rfl) (by kernel_rfl)
theorem call_62 : Callable Try.prog 62 := callable_of Try.func62 (by kernel_rfl) (by kernel_rfl)
theorem call_63 : Callable Try.prog 63 := callable_of Try.func63 (by kernel_rfl) (by kernel_rfl)
theorem call_64 : Callable Try.prog 64 := callable_of Try.func64 (by kernel_rfl) (by kernel_rfl)
theorem call_65 : Callable Try.prog 65 := callable_of Try.func65 (by kernel_rfl) (by kernel_rfl)
theorem call_66 : Callable Try.prog 66 := callable_of Try.func66 (by kernel_rfl) (by kernel_rfl)
theorem call_68 : Callable Try.prog 68 := callable_of Try.func68 (by kernel_rfl) (by kernel_rfl)
theorem call_69 : Callable Try.prog 69 := callable_of Try.func69 (by kernel_rfl) (by kernel_rfl)
theorem call_70 : Callable Try.prog 70 := callable_of Try.func70 (by kernel_rfl) (by kernel_rfl)
theorem call_71 : Callable Try.prog 71 := callable_of Try.func71 (by kernel_rfl) (by kernel_rfl)
theorem call_72 : Callable Try.prog 72 := callable_of Try.func72 (by kernel_rfl) (by kernel_rfl)
theorem call_73 : Callable Try.prog 73 := callable_of Try.func73 (by kernel_rfl) (by kernel_rfl)
theorem call_74 : Callable Try.prog 74 := callable_of Try.func74 (by kernel_rfl) (by kernel_rfl)
theorem call_75 : Callable Try.prog 75 := callable_of Try.func75 (by kernel_rfl) (by kernel_rfl)
theorem call_76 : Callable Try.prog 76 := callable_of Try.func76 (by kernel_rfl) (by kernel_rfl)
theorem call_77 : Callable Try.prog 77 := callable_of Try.func77 (by kernel_rfl) (by kernel_rfl)
theorem call_78 : Callable Try.prog 78 := callable_of Try.func78 (by kernel_rfl) (by kernel_rfl)
theorem call_79 : Callable Try.prog 79 := callable_of Try.func79 (by kernel_rfl) (by kernel_rfl)
theorem call_80 : Callable Try.prog 80 := callable_of Try.func80 (by kernel_rfl) (by kernel_rfl)
theorem call_81 : Callable Try.prog 81 := callable_of Try.func81 (by kernel_rfl) (by kernel_rfl)
theorem call_82 : Callable Try.prog 82 := callable_of Try.func82 (by kernel_rfl) (by kernel_rfl)
theorem call_83 : Callable Try.prog 83 := callable_of Try.func83 (by kernel_rfl) (by kernel_rfl)
theorem call_84 : Callable Try.prog 84 := callable_of Try.func84 (by kernel_rfl) (by kernel_rfl)
theorem call_85 : Callable Try.prog 85 := callable_of Try.func85 (by kernel_rfl) (by kernel_rfl)
theorem call_86 : Callable Try.prog 86 := callable_of Try.func86 (by kernel_rfl) (by kernel_rfl)
theorem call_87 : Callable Try.prog 87 := callable_of Try.func87 (by kernel_rfl) (by kernel_rfl)
theorem call_91 : Callable Try.prog 91 := callable_of Try.func91 (by kernel_rfl) (by kernel_rfl)
theorem call_92 : Callable Try.prog 92 := callable_of Try.func92 (by kernel_rfl) (by kernel_rfl)
theorem call_93 : Callable Try.prog 93 := callable_of Try.func93 (by kernel_rfl) (by kernel_rfl)
theorem call_94 : Callable Try.prog 94 := callable_of Try.func94 (by kernel_rfl) (by kernel_rfl)
theorem call_95 : Callable Try.prog 95 := callable_of Try.func95 (by kernel_rfl) (by kernel_rfl)
theorem call_96 : Callable Try.prog 96 := callable_of Try.func96 (by kernel_rfl) (by kernel_rfl)
theorem u8s_map (l : List UInt8) : u8s l = List.map dU l := rfl
theorem mixed : Try.prog.follows .mixedOrders = true := Try.checked.mixed
theorem upd_at {α : Type} (σ : Nat → α) (d : Nat) (x : α) (i : Nat) : upd σ d x i = if i = d then x else σ i := rfl
theorem take_drop_all {α : Type} (l : List α) (i : Nat) : (l.drop i).take (l.length - i) = l.drop i := List.take_of_length_le (by simp)
theorem drop_map0 {α β : Type} (f : α → β) (l : List α) (i : Nat) : (l.map f).drop i = (l.drop i).map f := List.map_drop.symm
theorem take_map0 {α β : Type} (f : α → β) (l : List α) (i : Nat) : (l.map f).take i = (l.take i).map f := List.map_take.symm
theorem inrO_fin {S R : Type} {b : S → Option (S ⊕ R)} {n : Nat} {x : Option R} {o : S ⊕ R} {out : R} (h : inrO x = some o) (hF : Fin' b n o out) : x = some out := by
  obtain ⟨r, h1, rfl⟩ := inrO_some h
  cases hF
  exact h1
theorem inl_fin {S R : Type} {b : S → Option (S ⊕ R)} {n : Nat} {s : S} {o : S ⊕ R} {out : R} (h : (some (.inl s) : Option (S ⊕ R)) = some o) (hF : Fin' b n o out) : Fin' b n (.inl s) out := by
  obtain rfl := Option.some.inj h
  exact hF
end Go.Proofs.Ytkhcecpbbmfcaaa
