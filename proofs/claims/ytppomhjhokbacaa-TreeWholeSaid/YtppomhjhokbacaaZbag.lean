/- Facts on types, and which functions can be called. -/
import Derived.Test.YtppomhjhokbacaaZbae
import Derived.Test.YtppomhjhokbacaaRows
set_option linter.unusedVariables false
set_option linter.unusedSimpArgs false
namespace Go.Proofs.Ytppomhjhokbacaa
open Go.RowKit
theorem tKnown_3 : tKnown Try.prog 3 = true := by kernel_rfl
theorem tSize_3 : tSize Try.prog 3 = 1 := by kernel_rfl
theorem tAgg_3 : tAgg Try.prog 3 = false := by kernel_rfl
theorem tZok_3 : tZok Try.prog 3 = true := by kernel_rfl
theorem tZ_3 : tZ Try.prog 3 = [.int .i64 0] := by kernel_rfl
theorem tCS_3 : tCS Try.prog 3 = [0] := by kernel_rfl
theorem tBytes_3 : tBytes Try.prog 3 = 8 := by kernel_rfl
theorem tKnown_4 : tKnown Try.prog 4 = true := by kernel_rfl
theorem tSize_4 : tSize Try.prog 4 = 1 := by kernel_rfl
theorem tAgg_4 : tAgg Try.prog 4 = false := by kernel_rfl
theorem tCS_4 : tCS Try.prog 4 = [0] := by kernel_rfl
theorem tKnown_9 : tKnown Try.prog 9 = true := by kernel_rfl
theorem tSize_9 : tSize Try.prog 9 = 1 := by kernel_rfl
theorem tAgg_9 : tAgg Try.prog 9 = false := by kernel_rfl
theorem tZok_9 : tZok Try.prog 9 = true := by kernel_rfl
theorem tZ_9 : tZ Try.prog 9 = [str []] := by kernel_rfl
theorem tCS_9 : tCS Try.prog 9 = [0] := by kernel_rfl
theorem tBytes_9 : tBytes Try.prog 9 = 16 := by kernel_rfl
theorem tAnyI_20 : tAnyI Try.prog 20 = true := by kernel_rfl
theorem tNilK_20 : tNilK Try.prog 20 = 4 := by kernel_rfl
theorem tKnown_23 : tKnown Try.prog 23 = true := by kernel_rfl
theorem tSize_23 : tSize Try.prog 23 = 1 := by kernel_rfl
theorem tAgg_23 : tAgg Try.prog 23 = false := by kernel_rfl
theorem tCS_23 : tCS Try.prog 23 = [11] := by kernel_rfl
theorem tSlice_23 : tSlice Try.prog 23 = true := by kernel_rfl
theorem tElem_23 : tElem Try.prog 23 = 38 := by kernel_rfl
theorem arrTy0_23 : arrTy0 23 = false := by kernel_rfl
theorem arrTy_23 : arrTy 23 = false := by kernel_rfl
theorem tKnown_25 : tKnown Try.prog 25 = true := by kernel_rfl
theorem tSize_25 : tSize Try.prog 25 = 1 := by kernel_rfl
theorem tAgg_25 : tAgg Try.prog 25 = false := by kernel_rfl
theorem tCS_25 : tCS Try.prog 25 = [3] := by kernel_rfl
theorem tSlice_25 : tSlice Try.prog 25 = true := by kernel_rfl
theorem tElem_25 : tElem Try.prog 25 = 27 := by kernel_rfl
theorem arrTy0_25 : arrTy0 25 = false := by kernel_rfl
theorem arrTy_25 : arrTy 25 = true := by kernel_rfl
theorem tKnown_27 : tKnown Try.prog 27 = true := by kernel_rfl
theorem tSize_27 : tSize Try.prog 27 = 3 := by kernel_rfl
theorem tAgg_27 : tAgg Try.prog 27 = true := by kernel_rfl
theorem tZok_27 : tZok Try.prog 27 = true := by kernel_rfl
theorem tZ_27 : tZ Try.prog 27 = [.int .i64 0, .int .i64 0, .slice none 0 0] := by kernel_rfl
theorem tCS_27 : tCS Try.prog 27 = [0, 0, 3] := by kernel_rfl
theorem tBytes_27 : tBytes Try.prog 27 = 40 := by kernel_rfl
theorem tPlain_27 : tPlain Try.prog 27 = true := by kernel_rfl
theorem tStruct_27_0 : tStruct Try.prog 27 0 = true := by kernel_rfl
theorem tOff_27_0 : tOff Try.prog 27 0 = 0 := by kernel_rfl
theorem tFld_27_0 : tFld Try.prog 27 0 = 3 := by kernel_rfl
theorem tStruct_27_1 : tStruct Try.prog 27 1 = true := by kernel_rfl
theorem tOff_27_1 : tOff Try.prog 27 1 = 1 := by kernel_rfl
theorem tFld_27_1 : tFld Try.prog 27 1 = 3 := by kernel_rfl
theorem tStruct_27_2 : tStruct Try.prog 27 2 = true := by kernel_rfl
theorem tOff_27_2 : tOff Try.prog 27 2 = 2 := by kernel_rfl
theorem tFld_27_2 : tFld Try.prog 27 2 = 25 := by kernel_rfl
theorem tKnown_28 : tKnown Try.prog 28 = true := by kernel_rfl
theorem tSize_28 : tSize Try.prog 28 = 1 := by kernel_rfl
theorem tAgg_28 : tAgg Try.prog 28 = false := by kernel_rfl
theorem tCS_28 : tCS Try.prog 28 = [0] := by kernel_rfl
theorem tKnown_30 : tKnown Try.prog 30 = true := by kernel_rfl
theorem tSize_30 : tSize Try.prog 30 = 3 := by kernel_rfl
theorem tAgg_30 : tAgg Try.prog 30 = true := by kernel_rfl
theorem tZok_30 : tZok Try.prog 30 = true := by kernel_rfl
theorem tZ_30 : tZ Try.prog 30 = [.int .i64 0, .int .i64 0, .int .i64 0] := by kernel_rfl
theorem tCS_30 : tCS Try.prog 30 = [0, 0, 0] := by kernel_rfl
theorem tPlain_30 : tPlain Try.prog 30 = true := by kernel_rfl
theorem tStruct_30_0 : tStruct Try.prog 30 0 = true := by kernel_rfl
theorem tOff_30_0 : tOff Try.prog 30 0 = 0 := by kernel_rfl
theorem tFld_30_0 : tFld Try.prog 30 0 = 28 := by kernel_rfl
theorem tStruct_30_1 : tStruct Try.prog 30 1 = true := by kernel_rfl
theorem tOff_30_1 : tOff Try.prog 30 1 = 1 := by kernel_rfl
theorem tFld_30_1 : tFld Try.prog 30 1 = 3 := by kernel_rfl
theorem tStruct_30_2 : tStruct Try.prog 30 2 = true := by kernel_rfl
theorem tOff_30_2 : tOff Try.prog 30 2 = 2 := by kernel_rfl
theorem tFld_30_2 : tFld Try.prog 30 2 = 3 := by kernel_rfl
theorem tSize_35 : tSize Try.prog 35 = 1 := by kernel_rfl
theorem tCS_35 : tCS Try.prog 35 = [1] := by kernel_rfl
theorem tSlice_35 : tSlice Try.prog 35 = true := by kernel_rfl
theorem tElem_35 : tElem Try.prog 35 = 9 := by kernel_rfl
theorem tSize_36 : tSize Try.prog 36 = 1 := by kernel_rfl
theorem tCS_36 : tCS Try.prog 36 = [3] := by kernel_rfl
theorem tKnown_38 : tKnown Try.prog 38 = true := by kernel_rfl
theorem tSize_38 : tSize Try.prog 38 = 11 := by kernel_rfl
theorem tAgg_38 : tAgg Try.prog 38 = true := by kernel_rfl
theorem tZok_38 : tZok Try.prog 38 = true := by kernel_rfl
theorem tZ_38 : tZ Try.prog 38 = [.int .i64 0, str [], .bool false, .bool false, .int .i64 0, .int .i64 0, .int .i64 0, .int .i64 0, .slice none 0 0, .slice none 0 0, .int .i64 0] := by kernel_rfl
theorem tCS_38 : tCS Try.prog 38 = [0, 0, 0, 0, 0, 0, 0, 0, 1, 3, 0] := by kernel_rfl
theorem tBytes_38 : tBytes Try.prog 38 = 120 := by kernel_rfl
theorem tPlain_38 : tPlain Try.prog 38 = true := by kernel_rfl
theorem tStruct_38_0 : tStruct Try.prog 38 0 = true := by kernel_rfl
theorem tOff_38_0 : tOff Try.prog 38 0 = 0 := by kernel_rfl
theorem tFld_38_0 : tFld Try.prog 38 0 = 3 := by kernel_rfl
theorem tStruct_38_1 : tStruct Try.prog 38 1 = true := by kernel_rfl
theorem tOff_38_1 : tOff Try.prog 38 1 = 1 := by kernel_rfl
theorem tFld_38_1 : tFld Try.prog 38 1 = 9 := by kernel_rfl
theorem tStruct_38_2 : tStruct Try.prog 38 2 = true := by kernel_rfl
theorem tOff_38_2 : tOff Try.prog 38 2 = 2 := by kernel_rfl
theorem tFld_38_2 : tFld Try.prog 38 2 = 4 := by kernel_rfl
theorem tStruct_38_3 : tStruct Try.prog 38 3 = true := by kernel_rfl
theorem tOff_38_3 : tOff Try.prog 38 3 = 3 := by kernel_rfl
theorem tFld_38_3 : tFld Try.prog 38 3 = 4 := by kernel_rfl
theorem tStruct_38_4 : tStruct Try.prog 38 4 = true := by kernel_rfl
theorem tOff_38_4 : tOff Try.prog 38 4 = 4 := by kernel_rfl
theorem tFld_38_4 : tFld Try.prog 38 4 = 3 := by kernel_rfl
theorem tStruct_38_5 : tStruct Try.prog 38 5 = true := by kernel_rfl
theorem tOff_38_5 : tOff Try.prog 38 5 = 5 := by kernel_rfl
theorem tFld_38_5 : tFld Try.prog 38 5 = 3 := by kernel_rfl
theorem tStruct_38_6 : tStruct Try.prog 38 6 = true := by kernel_rfl
theorem tOff_38_6 : tOff Try.prog 38 6 = 6 := by kernel_rfl
theorem tFld_38_6 : tFld Try.prog 38 6 = 3 := by kernel_rfl
theorem tStruct_38_7 : tStruct Try.prog 38 7 = true := by kernel_rfl
theorem tOff_38_7 : tOff Try.prog 38 7 = 7 := by kernel_rfl
theorem tFld_38_7 : tFld Try.prog 38 7 = 3 := by kernel_rfl
theorem tStruct_38_8 : tStruct Try.prog 38 8 = true := by kernel_rfl
theorem tOff_38_8 : tOff Try.prog 38 8 = 8 := by kernel_rfl
theorem tFld_38_8 : tFld Try.prog 38 8 = 35 := by kernel_rfl
theorem tStruct_38_9 : tStruct Try.prog 38 9 = true := by kernel_rfl
theorem tOff_38_9 : tOff Try.prog 38 9 = 9 := by kernel_rfl
theorem tFld_38_9 : tFld Try.prog 38 9 = 36 := by kernel_rfl
theorem tStruct_38_10 : tStruct Try.prog 38 10 = true := by kernel_rfl
theorem tOff_38_10 : tOff Try.prog 38 10 = 10 := by kernel_rfl
theorem tFld_38_10 : tFld Try.prog 38 10 = 3 := by kernel_rfl
theorem tKnown_46 : tKnown Try.prog 46 = true := by kernel_rfl
theorem tSize_46 : tSize Try.prog 46 = 3 := by kernel_rfl
theorem tAgg_46 : tAgg Try.prog 46 = true := by kernel_rfl
theorem tZok_46 : tZok Try.prog 46 = true := by kernel_rfl
theorem tZ_46 : tZ Try.prog 46 = [.int .i64 0, .int .i64 0, .int .i64 0] := by kernel_rfl
theorem tCS_46 : tCS Try.prog 46 = [0, 0, 0] := by kernel_rfl
theorem tNoIface_46 : tNoIface Try.prog 46 = true := by kernel_rfl
theorem tPlain_46 : tPlain Try.prog 46 = true := by kernel_rfl
theorem tStruct_46_0 : tStruct Try.prog 46 0 = true := by kernel_rfl
theorem tOff_46_0 : tOff Try.prog 46 0 = 0 := by kernel_rfl
theorem tFld_46_0 : tFld Try.prog 46 0 = 30 := by kernel_rfl
theorem tKnown_47 : tKnown Try.prog 47 = true := by kernel_rfl
theorem tSize_47 : tSize Try.prog 47 = 1 := by kernel_rfl
theorem tAgg_47 : tAgg Try.prog 47 = false := by kernel_rfl
theorem tCS_47 : tCS Try.prog 47 = [0] := by kernel_rfl
theorem tKnown_48 : tKnown Try.prog 48 = true := by kernel_rfl
theorem tSize_48 : tSize Try.prog 48 = 1 := by kernel_rfl
theorem tAgg_48 : tAgg Try.prog 48 = false := by kernel_rfl
theorem tZok_48 : tZok Try.prog 48 = true := by kernel_rfl
theorem tZ_48 : tZ Try.prog 48 = [.map none] := by kernel_rfl
theorem tCS_48 : tCS Try.prog 48 = [0] := by kernel_rfl
theorem tBytes_48 : tBytes Try.prog 48 = 8 := by kernel_rfl
theorem tKnown_49 : tKnown Try.prog 49 = true := by kernel_rfl
theorem tSize_49 : tSize Try.prog 49 = 1 := by kernel_rfl
theorem tAgg_49 : tAgg Try.prog 49 = false := by kernel_rfl
theorem tCS_49 : tCS Try.prog 49 = [1] := by kernel_rfl
theorem tSlice_49 : tSlice Try.prog 49 = true := by kernel_rfl
theorem tElem_49 : tElem Try.prog 49 = 48 := by kernel_rfl
theorem arrTy0_49 : arrTy0 49 = false := by kernel_rfl
theorem arrTy_49 : arrTy 49 = false := by kernel_rfl
theorem tZok_51 : tZok Try.prog 51 = true := by kernel_rfl
theorem tZ_51 : tZ Try.prog 51 = [.slice none 0 0, .int .i64 0, .int .i64 0, .slice none 0 0] := by kernel_rfl
theorem tCS_51 : tCS Try.prog 51 = [11, 0, 0, 1] := by kernel_rfl
theorem tPlain_51 : tPlain Try.prog 51 = true := by kernel_rfl
theorem tStruct_51_0 : tStruct Try.prog 51 0 = true := by kernel_rfl
theorem tOff_51_0 : tOff Try.prog 51 0 = 0 := by kernel_rfl
theorem tFld_51_0 : tFld Try.prog 51 0 = 23 := by kernel_rfl
theorem tStruct_51_1 : tStruct Try.prog 51 1 = true := by kernel_rfl
theorem tOff_51_1 : tOff Try.prog 51 1 = 1 := by kernel_rfl
theorem tFld_51_1 : tFld Try.prog 51 1 = 3 := by kernel_rfl
theorem tStruct_51_2 : tStruct Try.prog 51 2 = true := by kernel_rfl
theorem tOff_51_2 : tOff Try.prog 51 2 = 2 := by kernel_rfl
theorem tFld_51_2 : tFld Try.prog 51 2 = 3 := by kernel_rfl
theorem tStruct_51_3 : tStruct Try.prog 51 3 = true := by kernel_rfl
theorem tOff_51_3 : tOff Try.prog 51 3 = 3 := by kernel_rfl
theorem tFld_51_3 : tFld Try.prog 51 3 = 49 := by kernel_rfl
theorem tKnown_53 : tKnown Try.prog 53 = true := by kernel_rfl
theorem tSize_53 : tSize Try.prog 53 = 1 := by kernel_rfl
theorem tAgg_53 : tAgg Try.prog 53 = false := by kernel_rfl
theorem tCS_53 : tCS Try.prog 53 = [1] := by kernel_rfl
theorem tSlice_53 : tSlice Try.prog 53 = true := by kernel_rfl
theorem tElem_53 : tElem Try.prog 53 = 3 := by kernel_rfl
theorem arrTy0_53 : arrTy0 53 = false := by kernel_rfl
theorem arrTy_53 : arrTy 53 = false := by kernel_rfl
theorem tKnown_55 : tKnown Try.prog 55 = true := by kernel_rfl
theorem tSize_55 : tSize Try.prog 55 = 2 := by kernel_rfl
theorem tAgg_55 : tAgg Try.prog 55 = true := by kernel_rfl
theorem tZok_55 : tZok Try.prog 55 = true := by kernel_rfl
theorem tZ_55 : tZ Try.prog 55 = [str [], .slice none 0 0] := by kernel_rfl
theorem tCS_55 : tCS Try.prog 55 = [0, 1] := by kernel_rfl
theorem tStruct_55_0 : tStruct Try.prog 55 0 = true := by kernel_rfl
theorem tOff_55_0 : tOff Try.prog 55 0 = 0 := by kernel_rfl
theorem tFld_55_0 : tFld Try.prog 55 0 = 9 := by kernel_rfl
theorem tStruct_55_1 : tStruct Try.prog 55 1 = true := by kernel_rfl
theorem tOff_55_1 : tOff Try.prog 55 1 = 1 := by kernel_rfl
theorem tFld_55_1 : tFld Try.prog 55 1 = 53 := by kernel_rfl
theorem y_3 : ((((type_of% @Try.underlying3) ∧ (type_of% @tAgg_3)) ∧ ((type_of% @tBytes_3) ∧ (type_of% @tCS_3))) ∧ (((type_of% @tKnown_3) ∧ (type_of% @tSize_3)) ∧ ((type_of% @tZ_3) ∧ (type_of% @tZok_3)))) := ⟨⟨⟨@Try.underlying3, @tAgg_3⟩, ⟨@tBytes_3, @tCS_3⟩⟩, ⟨⟨@tKnown_3, @tSize_3⟩, ⟨@tZ_3, @tZok_3⟩⟩⟩
theorem y_4 : (((type_of% @tAgg_4) ∧ (type_of% @tCS_4)) ∧ ((type_of% @tKnown_4) ∧ (type_of% @tSize_4))) := ⟨⟨@tAgg_4, @tCS_4⟩, ⟨@tKnown_4, @tSize_4⟩⟩
theorem y_9 : ((((type_of% @Try.underlying9) ∧ (type_of% @tAgg_9)) ∧ ((type_of% @tBytes_9) ∧ (type_of% @tCS_9))) ∧ (((type_of% @tKnown_9) ∧ (type_of% @tSize_9)) ∧ ((type_of% @tZ_9) ∧ (type_of% @tZok_9)))) := ⟨⟨⟨@Try.underlying9, @tAgg_9⟩, ⟨@tBytes_9, @tCS_9⟩⟩, ⟨⟨@tKnown_9, @tSize_9⟩, ⟨@tZ_9, @tZok_9⟩⟩⟩
theorem y_20 : ((type_of% @tAnyI_20) ∧ (type_of% @tNilK_20)) := ⟨@tAnyI_20, @tNilK_20⟩
theorem y_23 : ((((type_of% @arrTy0_23) ∧ (type_of% @arrTy_23)) ∧ ((type_of% @tAgg_23) ∧ (type_of% @tCS_23))) ∧ (((type_of% @tElem_23) ∧ (type_of% @tKnown_23)) ∧ ((type_of% @tSize_23) ∧ (type_of% @tSlice_23)))) := ⟨⟨⟨@arrTy0_23, @arrTy_23⟩, ⟨@tAgg_23, @tCS_23⟩⟩, ⟨⟨@tElem_23, @tKnown_23⟩, ⟨@tSize_23, @tSlice_23⟩⟩⟩
theorem y_25 : ((((type_of% @arrTy0_25) ∧ (type_of% @arrTy_25)) ∧ ((type_of% @tAgg_25) ∧ (type_of% @tCS_25))) ∧ (((type_of% @tElem_25) ∧ (type_of% @tKnown_25)) ∧ ((type_of% @tSize_25) ∧ (type_of% @tSlice_25)))) := ⟨⟨⟨@arrTy0_25, @arrTy_25⟩, ⟨@tAgg_25, @tCS_25⟩⟩, ⟨⟨@tElem_25, @tKnown_25⟩, ⟨@tSize_25, @tSlice_25⟩⟩⟩
theorem y_27 : (((((type_of% @tAgg_27) ∧ (type_of% @tBytes_27)) ∧ ((type_of% @tCS_27) ∧ (type_of% @tFld_27_0))) ∧ (((type_of% @tFld_27_1) ∧ (type_of% @tFld_27_2)) ∧ ((type_of% @tKnown_27) ∧ (type_of% @tOff_27_0)))) ∧ ((((type_of% @tOff_27_1) ∧ (type_of% @tOff_27_2)) ∧ ((type_of% @tPlain_27) ∧ (type_of% @tSize_27))) ∧ (((type_of% @tStruct_27_0) ∧ (type_of% @tStruct_27_1)) ∧ ((type_of% @tStruct_27_2) ∧ ((type_of% @tZ_27) ∧ (type_of% @tZok_27)))))) := ⟨⟨⟨⟨@tAgg_27, @tBytes_27⟩, ⟨@tCS_27, @tFld_27_0⟩⟩, ⟨⟨@tFld_27_1, @tFld_27_2⟩, ⟨@tKnown_27, @tOff_27_0⟩⟩⟩, ⟨⟨⟨@tOff_27_1, @tOff_27_2⟩, ⟨@tPlain_27, @tSize_27⟩⟩, ⟨⟨@tStruct_27_0, @tStruct_27_1⟩, ⟨@tStruct_27_2, ⟨@tZ_27, @tZok_27⟩⟩⟩⟩⟩
theorem y_28 : (((type_of% @tAgg_28) ∧ (type_of% @tCS_28)) ∧ ((type_of% @tKnown_28) ∧ (type_of% @tSize_28))) := ⟨⟨@tAgg_28, @tCS_28⟩, ⟨@tKnown_28, @tSize_28⟩⟩
theorem y_30 : (((((type_of% @tAgg_30) ∧ (type_of% @tCS_30)) ∧ ((type_of% @tFld_30_0) ∧ (type_of% @tFld_30_1))) ∧ (((type_of% @tFld_30_2) ∧ (type_of% @tKnown_30)) ∧ ((type_of% @tOff_30_0) ∧ (type_of% @tOff_30_1)))) ∧ ((((type_of% @tOff_30_2) ∧ (type_of% @tPlain_30)) ∧ ((type_of% @tSize_30) ∧ (type_of% @tStruct_30_0))) ∧ (((type_of% @tStruct_30_1) ∧ (type_of% @tStruct_30_2)) ∧ ((type_of% @tZ_30) ∧ (type_of% @tZok_30))))) := ⟨⟨⟨⟨@tAgg_30, @tCS_30⟩, ⟨@tFld_30_0, @tFld_30_1⟩⟩, ⟨⟨@tFld_30_2, @tKnown_30⟩, ⟨@tOff_30_0, @tOff_30_1⟩⟩⟩, ⟨⟨⟨@tOff_30_2, @tPlain_30⟩, ⟨@tSize_30, @tStruct_30_0⟩⟩, ⟨⟨@tStruct_30_1, @tStruct_30_2⟩, ⟨@tZ_30, @tZok_30⟩⟩⟩⟩
theorem y_35 : (((type_of% @tCS_35) ∧ (type_of% @tElem_35)) ∧ ((type_of% @tSize_35) ∧ (type_of% @tSlice_35))) := ⟨⟨@tCS_35, @tElem_35⟩, ⟨@tSize_35, @tSlice_35⟩⟩
theorem y_36 : ((type_of% @tCS_36) ∧ (type_of% @tSize_36)) := ⟨@tCS_36, @tSize_36⟩
theorem y_38 : ((((((type_of% @tAgg_38) ∧ (type_of% @tBytes_38)) ∧ ((type_of% @tCS_38) ∧ ((type_of% @tFld_38_0) ∧ (type_of% @tFld_38_1)))) ∧ (((type_of% @tFld_38_10) ∧ (type_of% @tFld_38_2)) ∧ ((type_of% @tFld_38_3) ∧ ((type_of% @tFld_38_4) ∧ (type_of% @tFld_38_5))))) ∧ ((((type_of% @tFld_38_6) ∧ (type_of% @tFld_38_7)) ∧ ((type_of% @tFld_38_8) ∧ ((type_of% @tFld_38_9) ∧ (type_of% @tKnown_38)))) ∧ (((type_of% @tOff_38_0) ∧ (type_of% @tOff_38_1)) ∧ ((type_of% @tOff_38_10) ∧ ((type_of% @tOff_38_2) ∧ (type_of% @tOff_38_3)))))) ∧ (((((type_of% @tOff_38_4) ∧ (type_of% @tOff_38_5)) ∧ ((type_of% @tOff_38_6) ∧ ((type_of% @tOff_38_7) ∧ (type_of% @tOff_38_8)))) ∧ (((type_of% @tOff_38_9) ∧ (type_of% @tPlain_38)) ∧ ((type_of% @tSize_38) ∧ ((type_of% @tStruct_38_0) ∧ (type_of% @tStruct_38_1))))) ∧ ((((type_of% @tStruct_38_10) ∧ (type_of% @tStruct_38_2)) ∧ ((type_of% @tStruct_38_3) ∧ ((type_of% @tStruct_38_4) ∧ (type_of% @tStruct_38_5)))) ∧ (((type_of% @tStruct_38_6) ∧ ((type_of% @tStruct_38_7) ∧ (type_of% @tStruct_38_8))) ∧ ((type_of% @tStruct_38_9) ∧ ((type_of% @tZ_38) ∧ (type_of% @tZok_38))))))) := ⟨⟨⟨⟨⟨@tAgg_38, @tBytes_38⟩, ⟨@tCS_38, ⟨@tFld_38_0, @tFld_38_1⟩⟩⟩, ⟨⟨@tFld_38_10, @tFld_38_2⟩, ⟨@tFld_38_3, ⟨@tFld_38_4, @tFld_38_5⟩⟩⟩⟩, ⟨⟨⟨@tFld_38_6, @tFld_38_7⟩, ⟨@tFld_38_8, ⟨@tFld_38_9, @tKnown_38⟩⟩⟩, ⟨⟨@tOff_38_0, @tOff_38_1⟩, ⟨@tOff_38_10, ⟨@tOff_38_2, @tOff_38_3⟩⟩⟩⟩⟩, ⟨⟨⟨⟨@tOff_38_4, @tOff_38_5⟩, ⟨@tOff_38_6, ⟨@tOff_38_7, @tOff_38_8⟩⟩⟩, ⟨⟨@tOff_38_9, @tPlain_38⟩, ⟨@tSize_38, ⟨@tStruct_38_0, @tStruct_38_1⟩⟩⟩⟩, ⟨⟨⟨@tStruct_38_10, @tStruct_38_2⟩, ⟨@tStruct_38_3, ⟨@tStruct_38_4, @tStruct_38_5⟩⟩⟩, ⟨⟨@tStruct_38_6, ⟨@tStruct_38_7, @tStruct_38_8⟩⟩, ⟨@tStruct_38_9, ⟨@tZ_38, @tZok_38⟩⟩⟩⟩⟩⟩
theorem y_46 : ((((type_of% @tAgg_46) ∧ (type_of% @tCS_46)) ∧ ((type_of% @tFld_46_0) ∧ ((type_of% @tKnown_46) ∧ (type_of% @tNoIface_46)))) ∧ (((type_of% @tOff_46_0) ∧ ((type_of% @tPlain_46) ∧ (type_of% @tSize_46))) ∧ ((type_of% @tStruct_46_0) ∧ ((type_of% @tZ_46) ∧ (type_of% @tZok_46))))) := ⟨⟨⟨@tAgg_46, @tCS_46⟩, ⟨@tFld_46_0, ⟨@tKnown_46, @tNoIface_46⟩⟩⟩, ⟨⟨@tOff_46_0, ⟨@tPlain_46, @tSize_46⟩⟩, ⟨@tStruct_46_0, ⟨@tZ_46, @tZok_46⟩⟩⟩⟩
theorem y_47 : (((type_of% @tAgg_47) ∧ (type_of% @tCS_47)) ∧ ((type_of% @tKnown_47) ∧ (type_of% @tSize_47))) := ⟨⟨@tAgg_47, @tCS_47⟩, ⟨@tKnown_47, @tSize_47⟩⟩
theorem y_48 : (((type_of% @tAgg_48) ∧ ((type_of% @tBytes_48) ∧ (type_of% @tCS_48))) ∧ (((type_of% @tKnown_48) ∧ (type_of% @tSize_48)) ∧ ((type_of% @tZ_48) ∧ (type_of% @tZok_48)))) := ⟨⟨@tAgg_48, ⟨@tBytes_48, @tCS_48⟩⟩, ⟨⟨@tKnown_48, @tSize_48⟩, ⟨@tZ_48, @tZok_48⟩⟩⟩
theorem y_49 : ((((type_of% @arrTy0_49) ∧ (type_of% @arrTy_49)) ∧ ((type_of% @tAgg_49) ∧ (type_of% @tCS_49))) ∧ (((type_of% @tElem_49) ∧ (type_of% @tKnown_49)) ∧ ((type_of% @tSize_49) ∧ (type_of% @tSlice_49)))) := ⟨⟨⟨@arrTy0_49, @arrTy_49⟩, ⟨@tAgg_49, @tCS_49⟩⟩, ⟨⟨@tElem_49, @tKnown_49⟩, ⟨@tSize_49, @tSlice_49⟩⟩⟩
theorem y_51 : (((((type_of% @tCS_51) ∧ (type_of% @tFld_51_0)) ∧ ((type_of% @tFld_51_1) ∧ (type_of% @tFld_51_2))) ∧ (((type_of% @tFld_51_3) ∧ (type_of% @tOff_51_0)) ∧ ((type_of% @tOff_51_1) ∧ (type_of% @tOff_51_2)))) ∧ ((((type_of% @tOff_51_3) ∧ (type_of% @tPlain_51)) ∧ ((type_of% @tStruct_51_0) ∧ (type_of% @tStruct_51_1))) ∧ (((type_of% @tStruct_51_2) ∧ (type_of% @tStruct_51_3)) ∧ ((type_of% @tZ_51) ∧ (type_of% @tZok_51))))) := ⟨⟨⟨⟨@tCS_51, @tFld_51_0⟩, ⟨@tFld_51_1, @tFld_51_2⟩⟩, ⟨⟨@tFld_51_3, @tOff_51_0⟩, ⟨@tOff_51_1, @tOff_51_2⟩⟩⟩, ⟨⟨⟨@tOff_51_3, @tPlain_51⟩, ⟨@tStruct_51_0, @tStruct_51_1⟩⟩, ⟨⟨@tStruct_51_2, @tStruct_51_3⟩, ⟨@tZ_51, @tZok_51⟩⟩⟩⟩
theorem y_53 : ((((type_of% @arrTy0_53) ∧ (type_of% @arrTy_53)) ∧ ((type_of% @tAgg_53) ∧ (type_of% @tCS_53))) ∧ (((type_of% @tElem_53) ∧ (type_of% @tKnown_53)) ∧ ((type_of% @tSize_53) ∧ (type_of% @tSlice_53)))) := ⟨⟨⟨@arrTy0_53, @arrTy_53⟩, ⟨@tAgg_53, @tCS_53⟩⟩, ⟨⟨@tElem_53, @tKnown_53⟩, ⟨@tSize_53, @tSlice_53⟩⟩⟩
theorem y_55 : ((((type_of% @tAgg_55) ∧ ((type_of% @tCS_55) ∧ (type_of% @tFld_55_0))) ∧ ((type_of% @tFld_55_1) ∧ ((type_of% @tKnown_55) ∧ (type_of% @tOff_55_0)))) ∧ (((type_of% @tOff_55_1) ∧ ((type_of% @tSize_55) ∧ (type_of% @tStruct_55_0))) ∧ ((type_of% @tStruct_55_1) ∧ ((type_of% @tZ_55) ∧ (type_of% @tZok_55))))) := ⟨⟨⟨@tAgg_55, ⟨@tCS_55, @tFld_55_0⟩⟩, ⟨@tFld_55_1, ⟨@tKnown_55, @tOff_55_0⟩⟩⟩, ⟨⟨@tOff_55_1, ⟨@tSize_55, @tStruct_55_0⟩⟩, ⟨@tStruct_55_1, ⟨@tZ_55, @tZok_55⟩⟩⟩⟩
theorem call_5 : Callable Try.prog 5 := callable_of Try.func5 (by kernel_rfl) (by kernel_rfl)
theorem call_6 : Callable Try.prog 6 := callable_of Try.func6 (by kernel_rfl) (by kernel_rfl)
theorem call_7 : Callable Try.prog 7 := callable_of Try.func7 (by kernel_rfl) (by kernel_rfl)
theorem call_8 : Callable Try.prog 8 := callable_of Try.func8 (by kernel_rfl) (by kernel_rfl)
theorem call_9 : Callable Try.prog 9 := callable_of Try.func9 (by kernel_rfl) (by kernel_rfl)
theorem call_12 : Callable Try.prog 12 := callable_of Try.func12 (by kernel_rfl) (by kernel_rfl)
theorem call_13 : Callable Try.prog 13 := callable_of Try.func13 (by kernel_rfl) (by kernel_rfl)
theorem call_14 : Callable Try.prog 14 := callable_of Try.func14 (by kernel_rfl) (by kernel_rfl)
theorem call_15 : Callable Try.prog 15 := callable_of Try.func15 (by kernel_rfl) (by kernel_rfl)
theorem call_16 : Callable Try.prog 16 := callable_of Try.func16 (by kernel_rfl) (by kernel_rfl)
theorem call_17 : Callable Try.prog 17 := callable_of Try.func17 (by kernel_rfl) (by kernel_rfl)
theorem call_18 : Callable Try.prog 18 := callable_of Try.func18 (by kernel_rfl) (by kernel_rfl)
theorem call_19 : Callable Try.prog 19 := callable_of Try.func19 (by kernel_rfl) (by kernel_rfl)
theorem call_20 : Callable Try.prog 20 := callable_of Try.func20 (by kernel_rfl) (by kernel_rfl)
theorem call_21 : Callable Try.prog 21 := callable_of Try.func21 (by kernel_rfl) (by kernel_rfl)
theorem call_22 : Callable Try.prog 22 := callable_of Try.func22 (by kernel_rfl) (by kernel_rfl)
theorem call_23 : Callable Try.prog 23 := callable_of Try.func23 (by kernel_rfl) (by kernel_rfl)
theorem call_24 : Callable Try.prog 24 := callable_of Try.func24 (by kernel_rfl) (by kernel_rfl)
theorem call_25 : Callable Try.prog 25 := callable_of Try.func25 (by kernel_rfl) (by kernel_rfl)
theorem call_26 : Callable Try.prog 26 := callable_of Try.func26 (by kernel_rfl) (by kernel_rfl)
theorem call_27 : Callable Try.prog 27 := callable_of Try.func27 (by kernel_rfl) (by kernel_rfl)
theorem call_28 : Callable Try.prog 28 := callable_of Try.func28 (by kernel_rfl) (by kernel_rfl)
theorem call_29 : Callable Try.prog 29 := callable_of Try.func29 (by kernel_rfl) (by kernel_rfl)
theorem call_30 : Callable Try.prog 30 := callable_of Try.func30 (by kernel_rfl) (by kernel_rfl)
theorem call_31 : Callable Try.prog 31 := callable_of Try.func31 (by kernel_rfl) (by kernel_rfl)
theorem call_32 : Callable Try.prog 32 := callable_of Try.func32 (by kernel_rfl) (by kernel_rfl)
theorem call_33 : Callable Try.prog 33 := callable_of Try.func33 (by kernel_rfl) (by kernel_rfl)
theorem call_34 : Callable Try.prog 34 := callable_of Try.func34 (by kernel_rfl) (by kernel_rfl)
theorem call_35 : Callable Try.prog 35 := callable_of Try.func35 (by kernel_rfl) (by kernel_rfl)
theorem call_36 : Callable Try.prog 36 := callable_of Try.func36 (by kernel_rfl) (by kernel_rfl)
theorem call_37 : Callable Try.prog 37 := callable_of Try.func37 (by kernel_rfl) (by kernel_rfl)
theorem call_38 : Callable Try.prog 38 := callable_of Try.func38 (by kernel_rfl) (by kernel_rfl)
theorem call_39 : Callable Try.prog 39 := callable_of Try.func39 (by kernel_rfl) (by kernel_rfl)
theorem call_40 : Callable Try.prog 40 := callable_of Try.func40 (by kernel_rfl) (by kernel_rfl)
theorem call_41 : Callable Try.prog 41 := callable_of Try.func41 (by kernel_rfl) (by kernel_rfl)
theorem call_42 : Callable Try.prog 42 := callable_of Try.func42 (by kernel_rfl) (by kernel_rfl)
theorem call_43 : Callable Try.prog 43 := callable_of Try.func43 (by kernel_rfl) (by kernel_rfl)
theorem call_44 : Callable Try.prog 44 := callable_of Try.func44 (by kernel_rfl) (by kernel_rfl)
theorem call_45 : Callable Try.prog 45 := callable_of Try.func45 (by kernel_rfl) (by kernel_rfl)
theorem u8s_map (l : List UInt8) : u8s l = List.map dU l := rfl
theorem mixed : Try.prog.follows .mixedOrders = true := Try.checked.mixed
theorem upd_at {α : Type} (σ : Nat → α) (d : Nat) (x : α) (i : Nat) : upd σ d x i = if i = d then x else σ i := rfl
theorem take_drop_all {α : Type} (l : List α) (i : Nat) : (l.drop i).take (l.length - i) = l.drop i := List.take_of_length_le (by simp)
theorem drop_map0 {α β : Type} (f : α → β) (l : List α) (i : Nat) : (l.map f).drop i = (l.drop i).map f := List.map_drop.symm
theorem take_map0 {α β : Type} (f : α → β) (l : List α) (i : Nat) : (l.map f).take i = (l.take i).map f := List.map_take.symm
theorem inrO_fin {S R : Type} {b : S → Option (S ⊕ R)} {n : Nat} {x : Option R} {o : S ⊕ R} {out : R} (h : inrO x = some o) (hF : Fin' b n o out) : x = some out := by
  obtain ⟨r, h1, rfl⟩ := inrO_some h
  cases hF
  exact h1
theorem inl_fin {S R : Type} {b : S → Option (S ⊕ R)} {n : Nat} {s : S} {o : S ⊕ R} {out : R} (h : (some (.inl s) : Option (S ⊕ R)) = some o) (hF : Fin' b n o out) : Fin' b n (.inl s) out := by
  obtain rfl := Option.some.inj h
  exact hF
end Go.Proofs.Ytppomhjhokbacaa
