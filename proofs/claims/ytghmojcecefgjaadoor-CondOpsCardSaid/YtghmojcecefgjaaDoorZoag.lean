/- Facts on types, and which functions can be called. -/
import Derived.Test.YtghmojcecefgjaaDoorZoaf
import Derived.Test.YtghmojcecefgjaaDoorRows
set_option linter.unusedVariables false
set_option linter.unusedSimpArgs false
namespace Go.Proofs.YtghmojcecefgjaaDoor
open Go.RowKit
theorem tKnown_3 : tKnown Tryd.prog 3 = true := by kernel_rfl
theorem tSize_3 : tSize Tryd.prog 3 = 1 := by kernel_rfl
theorem tAgg_3 : tAgg Tryd.prog 3 = false := by kernel_rfl
theorem tZok_3 : tZok Tryd.prog 3 = true := by kernel_rfl
theorem tZ_3 : tZ Tryd.prog 3 = [.int .i64 0] := by kernel_rfl
theorem tCS_3 : tCS Tryd.prog 3 = [0] := by kernel_rfl
theorem tBytes_3 : tBytes Tryd.prog 3 = 8 := by kernel_rfl
theorem tKnown_4 : tKnown Tryd.prog 4 = true := by kernel_rfl
theorem tSize_4 : tSize Tryd.prog 4 = 1 := by kernel_rfl
theorem tAgg_4 : tAgg Tryd.prog 4 = false := by kernel_rfl
theorem tCS_4 : tCS Tryd.prog 4 = [0] := by kernel_rfl
theorem tKnown_9 : tKnown Tryd.prog 9 = true := by kernel_rfl
theorem tSize_9 : tSize Tryd.prog 9 = 1 := by kernel_rfl
theorem tAgg_9 : tAgg Tryd.prog 9 = false := by kernel_rfl
theorem tZok_9 : tZok Tryd.prog 9 = true := by kernel_rfl
theorem tZ_9 : tZ Tryd.prog 9 = [str []] := by kernel_rfl
theorem tCS_9 : tCS Tryd.prog 9 = [0] := by kernel_rfl
theorem tBytes_9 : tBytes Tryd.prog 9 = 16 := by kernel_rfl
theorem tNoIface_9 : tNoIface Tryd.prog 9 = true := by kernel_rfl
theorem tAnyI_20 : tAnyI Tryd.prog 20 = true := by kernel_rfl
theorem tNilK_20 : tNilK Tryd.prog 20 = 4 := by kernel_rfl
theorem tKnown_22 : tKnown Tryd.prog 22 = true := by kernel_rfl
theorem tSize_22 : tSize Tryd.prog 22 = 1 := by kernel_rfl
theorem tAgg_22 : tAgg Tryd.prog 22 = false := by kernel_rfl
theorem tCS_22 : tCS Tryd.prog 22 = [11] := by kernel_rfl
theorem tSlice_22 : tSlice Tryd.prog 22 = true := by kernel_rfl
theorem tElem_22 : tElem Tryd.prog 22 = 47 := by kernel_rfl
theorem arrTy0_22 : arrTy0 22 = false := by kernel_rfl
theorem arrTy_22 : arrTy 22 = false := by kernel_rfl
theorem tKnown_23 : tKnown Tryd.prog 23 = true := by kernel_rfl
theorem tSize_23 : tSize Tryd.prog 23 = 1 := by kernel_rfl
theorem tAgg_23 : tAgg Tryd.prog 23 = false := by kernel_rfl
theorem tCS_23 : tCS Tryd.prog 23 = [0] := by kernel_rfl
theorem tKnown_25 : tKnown Tryd.prog 25 = true := by kernel_rfl
theorem tSize_25 : tSize Tryd.prog 25 = 3 := by kernel_rfl
theorem tAgg_25 : tAgg Tryd.prog 25 = true := by kernel_rfl
theorem tZok_25 : tZok Tryd.prog 25 = true := by kernel_rfl
theorem tZ_25 : tZ Tryd.prog 25 = [.int .i64 0, .int .i64 0, .int .i64 0] := by kernel_rfl
theorem tCS_25 : tCS Tryd.prog 25 = [0, 0, 0] := by kernel_rfl
theorem tPlain_25 : tPlain Tryd.prog 25 = true := by kernel_rfl
theorem tFlat_25 : tFlat Tryd.prog 25 = true := by kernel_rfl
theorem tKinds_25 : tKinds Tryd.prog 25 = [1, 1, 1] := by kernel_rfl
theorem tStruct_25_0 : tStruct Tryd.prog 25 0 = true := by kernel_rfl
theorem tOff_25_0 : tOff Tryd.prog 25 0 = 0 := by kernel_rfl
theorem tFld_25_0 : tFld Tryd.prog 25 0 = 23 := by kernel_rfl
theorem tStruct_25_1 : tStruct Tryd.prog 25 1 = true := by kernel_rfl
theorem tOff_25_1 : tOff Tryd.prog 25 1 = 1 := by kernel_rfl
theorem tFld_25_1 : tFld Tryd.prog 25 1 = 3 := by kernel_rfl
theorem tStruct_25_2 : tStruct Tryd.prog 25 2 = true := by kernel_rfl
theorem tOff_25_2 : tOff Tryd.prog 25 2 = 2 := by kernel_rfl
theorem tFld_25_2 : tFld Tryd.prog 25 2 = 3 := by kernel_rfl
theorem tKnown_38 : tKnown Tryd.prog 38 = true := by kernel_rfl
theorem tSize_38 : tSize Tryd.prog 38 = 1 := by kernel_rfl
theorem tAgg_38 : tAgg Tryd.prog 38 = false := by kernel_rfl
theorem tZok_38 : tZok Tryd.prog 38 = true := by kernel_rfl
theorem tZ_38 : tZ Tryd.prog 38 = [.slice none 0 0] := by kernel_rfl
theorem tCS_38 : tCS Tryd.prog 38 = [1] := by kernel_rfl
theorem tBytes_38 : tBytes Tryd.prog 38 = 24 := by kernel_rfl
theorem tSlice_38 : tSlice Tryd.prog 38 = true := by kernel_rfl
theorem tElem_38 : tElem Tryd.prog 38 = 9 := by kernel_rfl
theorem tKnown_41 : tKnown Tryd.prog 41 = true := by kernel_rfl
theorem tSize_41 : tSize Tryd.prog 41 = 1 := by kernel_rfl
theorem tAgg_41 : tAgg Tryd.prog 41 = false := by kernel_rfl
theorem tCS_41 : tCS Tryd.prog 41 = [1] := by kernel_rfl
theorem tSlice_41 : tSlice Tryd.prog 41 = true := by kernel_rfl
theorem tElem_41 : tElem Tryd.prog 41 = 3 := by kernel_rfl
theorem arrTy0_41 : arrTy0 41 = false := by kernel_rfl
theorem arrTy_41 : arrTy 41 = false := by kernel_rfl
theorem tKnown_43 : tKnown Tryd.prog 43 = true := by kernel_rfl
theorem tSize_43 : tSize Tryd.prog 43 = 2 := by kernel_rfl
theorem tAgg_43 : tAgg Tryd.prog 43 = true := by kernel_rfl
theorem tZok_43 : tZok Tryd.prog 43 = true := by kernel_rfl
theorem tZ_43 : tZ Tryd.prog 43 = [str [], .slice none 0 0] := by kernel_rfl
theorem tCS_43 : tCS Tryd.prog 43 = [0, 1] := by kernel_rfl
theorem tStruct_43_0 : tStruct Tryd.prog 43 0 = true := by kernel_rfl
theorem tOff_43_0 : tOff Tryd.prog 43 0 = 0 := by kernel_rfl
theorem tFld_43_0 : tFld Tryd.prog 43 0 = 9 := by kernel_rfl
theorem tStruct_43_1 : tStruct Tryd.prog 43 1 = true := by kernel_rfl
theorem tOff_43_1 : tOff Tryd.prog 43 1 = 1 := by kernel_rfl
theorem tFld_43_1 : tFld Tryd.prog 43 1 = 41 := by kernel_rfl
theorem tSize_45 : tSize Tryd.prog 45 = 1 := by kernel_rfl
theorem tCS_45 : tCS Tryd.prog 45 = [3] := by kernel_rfl
theorem tKnown_47 : tKnown Tryd.prog 47 = true := by kernel_rfl
theorem tSize_47 : tSize Tryd.prog 47 = 11 := by kernel_rfl
theorem tAgg_47 : tAgg Tryd.prog 47 = true := by kernel_rfl
theorem tZok_47 : tZok Tryd.prog 47 = true := by kernel_rfl
theorem tZ_47 : tZ Tryd.prog 47 = [.int .i64 0, str [], .bool false, .bool false, .int .i64 0, .int .i64 0, .int .i64 0, .int .i64 0, .slice none 0 0, .slice none 0 0, .int .i64 0] := by kernel_rfl
theorem tCS_47 : tCS Tryd.prog 47 = [0, 0, 0, 0, 0, 0, 0, 0, 1, 3, 0] := by kernel_rfl
theorem tBytes_47 : tBytes Tryd.prog 47 = 120 := by kernel_rfl
theorem tPlain_47 : tPlain Tryd.prog 47 = true := by kernel_rfl
theorem tStruct_47_0 : tStruct Tryd.prog 47 0 = true := by kernel_rfl
theorem tOff_47_0 : tOff Tryd.prog 47 0 = 0 := by kernel_rfl
theorem tFld_47_0 : tFld Tryd.prog 47 0 = 3 := by kernel_rfl
theorem tStruct_47_1 : tStruct Tryd.prog 47 1 = true := by kernel_rfl
theorem tOff_47_1 : tOff Tryd.prog 47 1 = 1 := by kernel_rfl
theorem tFld_47_1 : tFld Tryd.prog 47 1 = 9 := by kernel_rfl
theorem tStruct_47_2 : tStruct Tryd.prog 47 2 = true := by kernel_rfl
theorem tOff_47_2 : tOff Tryd.prog 47 2 = 2 := by kernel_rfl
theorem tFld_47_2 : tFld Tryd.prog 47 2 = 4 := by kernel_rfl
theorem tStruct_47_3 : tStruct Tryd.prog 47 3 = true := by kernel_rfl
theorem tOff_47_3 : tOff Tryd.prog 47 3 = 3 := by kernel_rfl
theorem tFld_47_3 : tFld Tryd.prog 47 3 = 4 := by kernel_rfl
theorem tStruct_47_4 : tStruct Tryd.prog 47 4 = true := by kernel_rfl
theorem tOff_47_4 : tOff Tryd.prog 47 4 = 4 := by kernel_rfl
theorem tFld_47_4 : tFld Tryd.prog 47 4 = 3 := by kernel_rfl
theorem tStruct_47_5 : tStruct Tryd.prog 47 5 = true := by kernel_rfl
theorem tOff_47_5 : tOff Tryd.prog 47 5 = 5 := by kernel_rfl
theorem tFld_47_5 : tFld Tryd.prog 47 5 = 3 := by kernel_rfl
theorem tStruct_47_6 : tStruct Tryd.prog 47 6 = true := by kernel_rfl
theorem tOff_47_6 : tOff Tryd.prog 47 6 = 6 := by kernel_rfl
theorem tFld_47_6 : tFld Tryd.prog 47 6 = 3 := by kernel_rfl
theorem tStruct_47_7 : tStruct Tryd.prog 47 7 = true := by kernel_rfl
theorem tOff_47_7 : tOff Tryd.prog 47 7 = 7 := by kernel_rfl
theorem tFld_47_7 : tFld Tryd.prog 47 7 = 3 := by kernel_rfl
theorem tStruct_47_8 : tStruct Tryd.prog 47 8 = true := by kernel_rfl
theorem tOff_47_8 : tOff Tryd.prog 47 8 = 8 := by kernel_rfl
theorem tFld_47_8 : tFld Tryd.prog 47 8 = 38 := by kernel_rfl
theorem tStruct_47_9 : tStruct Tryd.prog 47 9 = true := by kernel_rfl
theorem tOff_47_9 : tOff Tryd.prog 47 9 = 9 := by kernel_rfl
theorem tFld_47_9 : tFld Tryd.prog 47 9 = 45 := by kernel_rfl
theorem tStruct_47_10 : tStruct Tryd.prog 47 10 = true := by kernel_rfl
theorem tOff_47_10 : tOff Tryd.prog 47 10 = 10 := by kernel_rfl
theorem tFld_47_10 : tFld Tryd.prog 47 10 = 3 := by kernel_rfl
theorem tKnown_52 : tKnown Tryd.prog 52 = true := by kernel_rfl
theorem tSize_52 : tSize Tryd.prog 52 = 3 := by kernel_rfl
theorem tAgg_52 : tAgg Tryd.prog 52 = true := by kernel_rfl
theorem tZok_52 : tZok Tryd.prog 52 = true := by kernel_rfl
theorem tZ_52 : tZ Tryd.prog 52 = [.int .i64 0, .int .i64 0, .int .i64 0] := by kernel_rfl
theorem tCS_52 : tCS Tryd.prog 52 = [0, 0, 0] := by kernel_rfl
theorem tNoIface_52 : tNoIface Tryd.prog 52 = true := by kernel_rfl
theorem tPlain_52 : tPlain Tryd.prog 52 = true := by kernel_rfl
theorem tStruct_52_0 : tStruct Tryd.prog 52 0 = true := by kernel_rfl
theorem tOff_52_0 : tOff Tryd.prog 52 0 = 0 := by kernel_rfl
theorem tFld_52_0 : tFld Tryd.prog 52 0 = 25 := by kernel_rfl
theorem tKnown_53 : tKnown Tryd.prog 53 = true := by kernel_rfl
theorem tSize_53 : tSize Tryd.prog 53 = 1 := by kernel_rfl
theorem tAgg_53 : tAgg Tryd.prog 53 = false := by kernel_rfl
theorem tCS_53 : tCS Tryd.prog 53 = [0] := by kernel_rfl
theorem tZok_55 : tZok Tryd.prog 55 = true := by kernel_rfl
theorem tZ_55 : tZ Tryd.prog 55 = [.slice none 0 0, .int .i64 0, .int .i64 0, .int .i64 0] := by kernel_rfl
theorem tCS_55 : tCS Tryd.prog 55 = [11, 0, 0, 0] := by kernel_rfl
theorem tPlain_55 : tPlain Tryd.prog 55 = true := by kernel_rfl
theorem tStruct_55_0 : tStruct Tryd.prog 55 0 = true := by kernel_rfl
theorem tOff_55_0 : tOff Tryd.prog 55 0 = 0 := by kernel_rfl
theorem tFld_55_0 : tFld Tryd.prog 55 0 = 22 := by kernel_rfl
theorem tStruct_55_1 : tStruct Tryd.prog 55 1 = true := by kernel_rfl
theorem tOff_55_1 : tOff Tryd.prog 55 1 = 1 := by kernel_rfl
theorem tFld_55_1 : tFld Tryd.prog 55 1 = 3 := by kernel_rfl
theorem tStruct_55_2 : tStruct Tryd.prog 55 2 = true := by kernel_rfl
theorem tOff_55_2 : tOff Tryd.prog 55 2 = 2 := by kernel_rfl
theorem tFld_55_2 : tFld Tryd.prog 55 2 = 3 := by kernel_rfl
theorem tStruct_55_3 : tStruct Tryd.prog 55 3 = true := by kernel_rfl
theorem tOff_55_3 : tOff Tryd.prog 55 3 = 3 := by kernel_rfl
theorem tFld_55_3 : tFld Tryd.prog 55 3 = 3 := by kernel_rfl
theorem tKnown_65 : tKnown Tryd.prog 65 = true := by kernel_rfl
theorem tSize_65 : tSize Tryd.prog 65 = 1 := by kernel_rfl
theorem tAgg_65 : tAgg Tryd.prog 65 = false := by kernel_rfl
theorem tCS_65 : tCS Tryd.prog 65 = [0] := by kernel_rfl
theorem tNilK_65 : tNilK Tryd.prog 65 = 4 := by kernel_rfl
theorem tKnown_73 : tKnown Tryd.prog 73 = true := by kernel_rfl
theorem tSize_73 : tSize Tryd.prog 73 = 2 := by kernel_rfl
theorem tAgg_73 : tAgg Tryd.prog 73 = true := by kernel_rfl
theorem tPlain_73 : tPlain Tryd.prog 73 = true := by kernel_rfl
theorem tALen_73 : tALen Tryd.prog 73 = 2 := by kernel_rfl
theorem tAEl_73 : tAEl Tryd.prog 73 = 3 := by kernel_rfl
theorem tAOk_73 : tAOk Tryd.prog 73 = true := by kernel_rfl
theorem tZok_73 : tZok Tryd.prog 73 = true := by kernel_rfl
theorem tZ_73 : tZ Tryd.prog 73 = [.int .i64 0, .int .i64 0] := by kernel_rfl
theorem tCS_73 : tCS Tryd.prog 73 = [0] := by kernel_rfl
theorem y_3 : ((((type_of% @Tryd.underlying3) ∧ (type_of% @tAgg_3)) ∧ ((type_of% @tBytes_3) ∧ (type_of% @tCS_3))) ∧ (((type_of% @tKnown_3) ∧ (type_of% @tSize_3)) ∧ ((type_of% @tZ_3) ∧ (type_of% @tZok_3)))) := ⟨⟨⟨@Tryd.underlying3, @tAgg_3⟩, ⟨@tBytes_3, @tCS_3⟩⟩, ⟨⟨@tKnown_3, @tSize_3⟩, ⟨@tZ_3, @tZok_3⟩⟩⟩
theorem y_4 : (((type_of% @Tryd.underlying4) ∧ (type_of% @tAgg_4)) ∧ ((type_of% @tCS_4) ∧ ((type_of% @tKnown_4) ∧ (type_of% @tSize_4)))) := ⟨⟨@Tryd.underlying4, @tAgg_4⟩, ⟨@tCS_4, ⟨@tKnown_4, @tSize_4⟩⟩⟩
theorem y_9 : ((((type_of% @Tryd.underlying9) ∧ (type_of% @tAgg_9)) ∧ ((type_of% @tBytes_9) ∧ (type_of% @tCS_9))) ∧ (((type_of% @tKnown_9) ∧ (type_of% @tNoIface_9)) ∧ ((type_of% @tSize_9) ∧ ((type_of% @tZ_9) ∧ (type_of% @tZok_9))))) := ⟨⟨⟨@Tryd.underlying9, @tAgg_9⟩, ⟨@tBytes_9, @tCS_9⟩⟩, ⟨⟨@tKnown_9, @tNoIface_9⟩, ⟨@tSize_9, ⟨@tZ_9, @tZok_9⟩⟩⟩⟩
theorem y_20 : ((type_of% @tAnyI_20) ∧ (type_of% @tNilK_20)) := ⟨@tAnyI_20, @tNilK_20⟩
theorem y_22 : ((((type_of% @arrTy0_22) ∧ (type_of% @arrTy_22)) ∧ ((type_of% @tAgg_22) ∧ (type_of% @tCS_22))) ∧ (((type_of% @tElem_22) ∧ (type_of% @tKnown_22)) ∧ ((type_of% @tSize_22) ∧ (type_of% @tSlice_22)))) := ⟨⟨⟨@arrTy0_22, @arrTy_22⟩, ⟨@tAgg_22, @tCS_22⟩⟩, ⟨⟨@tElem_22, @tKnown_22⟩, ⟨@tSize_22, @tSlice_22⟩⟩⟩
theorem y_23 : (((type_of% @tAgg_23) ∧ (type_of% @tCS_23)) ∧ ((type_of% @tKnown_23) ∧ (type_of% @tSize_23))) := ⟨⟨@tAgg_23, @tCS_23⟩, ⟨@tKnown_23, @tSize_23⟩⟩
theorem y_25 : (((((type_of% @tAgg_25) ∧ (type_of% @tCS_25)) ∧ ((type_of% @tFlat_25) ∧ (type_of% @tFld_25_0))) ∧ (((type_of% @tFld_25_1) ∧ (type_of% @tFld_25_2)) ∧ ((type_of% @tKinds_25) ∧ ((type_of% @tKnown_25) ∧ (type_of% @tOff_25_0))))) ∧ ((((type_of% @tOff_25_1) ∧ (type_of% @tOff_25_2)) ∧ ((type_of% @tPlain_25) ∧ (type_of% @tSize_25))) ∧ (((type_of% @tStruct_25_0) ∧ (type_of% @tStruct_25_1)) ∧ ((type_of% @tStruct_25_2) ∧ ((type_of% @tZ_25) ∧ (type_of% @tZok_25)))))) := ⟨⟨⟨⟨@tAgg_25, @tCS_25⟩, ⟨@tFlat_25, @tFld_25_0⟩⟩, ⟨⟨@tFld_25_1, @tFld_25_2⟩, ⟨@tKinds_25, ⟨@tKnown_25, @tOff_25_0⟩⟩⟩⟩, ⟨⟨⟨@tOff_25_1, @tOff_25_2⟩, ⟨@tPlain_25, @tSize_25⟩⟩, ⟨⟨@tStruct_25_0, @tStruct_25_1⟩, ⟨@tStruct_25_2, ⟨@tZ_25, @tZok_25⟩⟩⟩⟩⟩
theorem y_38 : ((((type_of% @tAgg_38) ∧ (type_of% @tBytes_38)) ∧ ((type_of% @tCS_38) ∧ (type_of% @tElem_38))) ∧ (((type_of% @tKnown_38) ∧ (type_of% @tSize_38)) ∧ ((type_of% @tSlice_38) ∧ ((type_of% @tZ_38) ∧ (type_of% @tZok_38))))) := ⟨⟨⟨@tAgg_38, @tBytes_38⟩, ⟨@tCS_38, @tElem_38⟩⟩, ⟨⟨@tKnown_38, @tSize_38⟩, ⟨@tSlice_38, ⟨@tZ_38, @tZok_38⟩⟩⟩⟩
theorem y_41 : ((((type_of% @arrTy0_41) ∧ (type_of% @arrTy_41)) ∧ ((type_of% @tAgg_41) ∧ (type_of% @tCS_41))) ∧ (((type_of% @tElem_41) ∧ (type_of% @tKnown_41)) ∧ ((type_of% @tSize_41) ∧ (type_of% @tSlice_41)))) := ⟨⟨⟨@arrTy0_41, @arrTy_41⟩, ⟨@tAgg_41, @tCS_41⟩⟩, ⟨⟨@tElem_41, @tKnown_41⟩, ⟨@tSize_41, @tSlice_41⟩⟩⟩
theorem y_43 : ((((type_of% @tAgg_43) ∧ ((type_of% @tCS_43) ∧ (type_of% @tFld_43_0))) ∧ ((type_of% @tFld_43_1) ∧ ((type_of% @tKnown_43) ∧ (type_of% @tOff_43_0)))) ∧ (((type_of% @tOff_43_1) ∧ ((type_of% @tSize_43) ∧ (type_of% @tStruct_43_0))) ∧ ((type_of% @tStruct_43_1) ∧ ((type_of% @tZ_43) ∧ (type_of% @tZok_43))))) := ⟨⟨⟨@tAgg_43, ⟨@tCS_43, @tFld_43_0⟩⟩, ⟨@tFld_43_1, ⟨@tKnown_43, @tOff_43_0⟩⟩⟩, ⟨⟨@tOff_43_1, ⟨@tSize_43, @tStruct_43_0⟩⟩, ⟨@tStruct_43_1, ⟨@tZ_43, @tZok_43⟩⟩⟩⟩
theorem y_45 : ((type_of% @tCS_45) ∧ (type_of% @tSize_45)) := ⟨@tCS_45, @tSize_45⟩
theorem y_47 : ((((((type_of% @tAgg_47) ∧ (type_of% @tBytes_47)) ∧ ((type_of% @tCS_47) ∧ ((type_of% @tFld_47_0) ∧ (type_of% @tFld_47_1)))) ∧ (((type_of% @tFld_47_10) ∧ (type_of% @tFld_47_2)) ∧ ((type_of% @tFld_47_3) ∧ ((type_of% @tFld_47_4) ∧ (type_of% @tFld_47_5))))) ∧ ((((type_of% @tFld_47_6) ∧ (type_of% @tFld_47_7)) ∧ ((type_of% @tFld_47_8) ∧ ((type_of% @tFld_47_9) ∧ (type_of% @tKnown_47)))) ∧ (((type_of% @tOff_47_0) ∧ (type_of% @tOff_47_1)) ∧ ((type_of% @tOff_47_10) ∧ ((type_of% @tOff_47_2) ∧ (type_of% @tOff_47_3)))))) ∧ (((((type_of% @tOff_47_4) ∧ (type_of% @tOff_47_5)) ∧ ((type_of% @tOff_47_6) ∧ ((type_of% @tOff_47_7) ∧ (type_of% @tOff_47_8)))) ∧ (((type_of% @tOff_47_9) ∧ (type_of% @tPlain_47)) ∧ ((type_of% @tSize_47) ∧ ((type_of% @tStruct_47_0) ∧ (type_of% @tStruct_47_1))))) ∧ ((((type_of% @tStruct_47_10) ∧ (type_of% @tStruct_47_2)) ∧ ((type_of% @tStruct_47_3) ∧ ((type_of% @tStruct_47_4) ∧ (type_of% @tStruct_47_5)))) ∧ (((type_of% @tStruct_47_6) ∧ ((type_of% @tStruct_47_7) ∧ (type_of% @tStruct_47_8))) ∧ ((type_of% @tStruct_47_9) ∧ ((type_of% @tZ_47) ∧ (type_of% @tZok_47))))))) := ⟨⟨⟨⟨⟨@tAgg_47, @tBytes_47⟩, ⟨@tCS_47, ⟨@tFld_47_0, @tFld_47_1⟩⟩⟩, ⟨⟨@tFld_47_10, @tFld_47_2⟩, ⟨@tFld_47_3, ⟨@tFld_47_4, @tFld_47_5⟩⟩⟩⟩, ⟨⟨⟨@tFld_47_6, @tFld_47_7⟩, ⟨@tFld_47_8, ⟨@tFld_47_9, @tKnown_47⟩⟩⟩, ⟨⟨@tOff_47_0, @tOff_47_1⟩, ⟨@tOff_47_10, ⟨@tOff_47_2, @tOff_47_3⟩⟩⟩⟩⟩, ⟨⟨⟨⟨@tOff_47_4, @tOff_47_5⟩, ⟨@tOff_47_6, ⟨@tOff_47_7, @tOff_47_8⟩⟩⟩, ⟨⟨@tOff_47_9, @tPlain_47⟩, ⟨@tSize_47, ⟨@tStruct_47_0, @tStruct_47_1⟩⟩⟩⟩, ⟨⟨⟨@tStruct_47_10, @tStruct_47_2⟩, ⟨@tStruct_47_3, ⟨@tStruct_47_4, @tStruct_47_5⟩⟩⟩, ⟨⟨@tStruct_47_6, ⟨@tStruct_47_7, @tStruct_47_8⟩⟩, ⟨@tStruct_47_9, ⟨@tZ_47, @tZok_47⟩⟩⟩⟩⟩⟩
theorem y_52 : ((((type_of% @tAgg_52) ∧ (type_of% @tCS_52)) ∧ ((type_of% @tFld_52_0) ∧ ((type_of% @tKnown_52) ∧ (type_of% @tNoIface_52)))) ∧ (((type_of% @tOff_52_0) ∧ ((type_of% @tPlain_52) ∧ (type_of% @tSize_52))) ∧ ((type_of% @tStruct_52_0) ∧ ((type_of% @tZ_52) ∧ (type_of% @tZok_52))))) := ⟨⟨⟨@tAgg_52, @tCS_52⟩, ⟨@tFld_52_0, ⟨@tKnown_52, @tNoIface_52⟩⟩⟩, ⟨⟨@tOff_52_0, ⟨@tPlain_52, @tSize_52⟩⟩, ⟨@tStruct_52_0, ⟨@tZ_52, @tZok_52⟩⟩⟩⟩
theorem y_53 : (((type_of% @tAgg_53) ∧ (type_of% @tCS_53)) ∧ ((type_of% @tKnown_53) ∧ (type_of% @tSize_53))) := ⟨⟨@tAgg_53, @tCS_53⟩, ⟨@tKnown_53, @tSize_53⟩⟩
theorem y_55 : (((((type_of% @tCS_55) ∧ (type_of% @tFld_55_0)) ∧ ((type_of% @tFld_55_1) ∧ (type_of% @tFld_55_2))) ∧ (((type_of% @tFld_55_3) ∧ (type_of% @tOff_55_0)) ∧ ((type_of% @tOff_55_1) ∧ (type_of% @tOff_55_2)))) ∧ ((((type_of% @tOff_55_3) ∧ (type_of% @tPlain_55)) ∧ ((type_of% @tStruct_55_0) ∧ (type_of% @tStruct_55_1))) ∧ (((type_of% @tStruct_55_2) ∧ (type_of% @tStruct_55_3)) ∧ ((type_of% @tZ_55) ∧ (type_of% @tZok_55))))) := ⟨⟨⟨⟨@tCS_55, @tFld_55_0⟩, ⟨@tFld_55_1, @tFld_55_2⟩⟩, ⟨⟨@tFld_55_3, @tOff_55_0⟩, ⟨@tOff_55_1, @tOff_55_2⟩⟩⟩, ⟨⟨⟨@tOff_55_3, @tPlain_55⟩, ⟨@tStruct_55_0, @tStruct_55_1⟩⟩, ⟨⟨@tStruct_55_2, @tStruct_55_3⟩, ⟨@tZ_55, @tZok_55⟩⟩⟩⟩
theorem y_65 : (((type_of% @tAgg_65) ∧ (type_of% @tCS_65)) ∧ ((type_of% @tKnown_65) ∧ ((type_of% @tNilK_65) ∧ (type_of% @tSize_65)))) := ⟨⟨@tAgg_65, @tCS_65⟩, ⟨@tKnown_65, ⟨@tNilK_65, @tSize_65⟩⟩⟩
theorem y_73 : ((((type_of% @tAEl_73) ∧ (type_of% @tALen_73)) ∧ ((type_of% @tAOk_73) ∧ ((type_of% @tAgg_73) ∧ (type_of% @tCS_73)))) ∧ (((type_of% @tKnown_73) ∧ (type_of% @tPlain_73)) ∧ ((type_of% @tSize_73) ∧ ((type_of% @tZ_73) ∧ (type_of% @tZok_73))))) := ⟨⟨⟨@tAEl_73, @tALen_73⟩, ⟨@tAOk_73, ⟨@tAgg_73, @tCS_73⟩⟩⟩, ⟨⟨@tKnown_73, @tPlain_73⟩, ⟨@tSize_73, ⟨@tZ_73, @tZok_73⟩⟩⟩⟩
theorem call_7 : Callable Tryd.prog 7 := callable_of Tryd.func7 (by kernel_rfl) (by kernel_rfl)
theorem call_8 : Callable Tryd.prog 8 := callable_of Tryd.func8 (by kernel_rfl) (by kernel_rfl)
theorem call_10 : Callable Tryd.prog 10 := callable_of Tryd.func10 (by kernel_rfl) (by kernel_rfl)
theorem call_12 : Callable Tryd.prog 12 := callable_of Tryd.func12 (by kernel_rfl) (by kernel_rfl)
theorem call_17 : Callable Tryd.prog 17 := callable_of Tryd.func17 (by kernel_rfl) (by kernel_rfl)
theorem call_18 : Callable Tryd.prog 18 := callable_of Tryd.func18 (by kernel_rfl) (by kernel_rfl)
theorem call_19 : Callable Tryd.prog 19 := callable_of Tryd.func19 (by kernel_rfl) (by kernel_rfl)
theorem call_20 : Callable Tryd.prog 20 := callable_of Tryd.func20 (by kernel_rfl) (by kernel_rfl)
theorem call_21 : Callable Tryd.prog 21 := callable_of Tryd.func21 (by kernel_rfl) (by kernel_rfl)
theorem call_22 : Callable Tryd.prog 22 := callable_of Tryd.func22 (by kernel_rfl) (by kernel_rfl)
theorem call_23 : Callable Tryd.prog 23 := callable_of Tryd.func23 (by kernel_rfl) (by kernel_rfl)
theorem call_24 : Callable Tryd.prog 24 := callable_of Tryd.func24 (by kernel_rfl) (by kernel_rfl)
theorem call_27 : Callable Tryd.prog 27 := callable_of Tryd.func27 (by kernel_rfl) (by kernel_rfl)
theorem call_28 : Callable Tryd.prog 28 := callable_of Tryd.func28 (by kernel_rfl) (by kernel_rfl)
theorem call_29 : Callable Tryd.prog 29 := callable_of Tryd.func29 (by kernel_rfl) (by kernel_rfl)
theorem call_30 : Callable Tryd.prog 30 := callable_of Tryd.func30 (by kernel_rfl) (by kernel_rfl)
theorem call_31 : Callable Tryd.prog 31 := callable_of Tryd.func31 (by kernel_rfl) (by kernel_rfl)
theorem call_32 : Callable Tryd.prog 32 := callable_of Tryd.func32 (by kernel_rfl) (by kernel_rfl)
theorem call_33 : Callable Tryd.prog 33 := callable_of Tryd.func33 (by kernel_rfl) (by kernel_rfl)
theorem call_34 : Callable Tryd.prog 34 := callable_of Tryd.func34 (by kernel_rfl) (by kernel_rfl)
theorem call_35 : Callable Tryd.prog 35 := callable_of Tryd.func35 (by kernel_rfl) (by kernel_rfl)
theorem call_42 : Callable Tryd.prog 42 := callable_of Tryd.func42 (by kernel_rfl) (by kernel_rfl)
theorem call_43 : Callable Tryd.prog 43 := callable_of Tryd.func43 (by kernel_rfl) (by kernel_rfl)
theorem call_44 : Callable Tryd.prog 44 := callable_of Tryd.func44 (by kernel_rfl) (by kernel_rfl)
theorem call_45 : Callable Tryd.prog 45 := callable_of Tryd.func45 (by kernel_rfl) (by kernel_rfl)
theorem call_46 : Callable Tryd.prog 46 := callable_of Tryd.func46 (by kernel_rfl) (by kernel_rfl)
theorem call_47 : Callable Tryd.prog 47 := callable_of Tryd.func47 (by kernel_rfl) (by kernel_rfl)
theorem call_58 : Callable Tryd.prog 58 := callable_of Tryd.func58 (by kernel_rfl) (by kernel_rfl)
theorem call_59 : Callable Tryd.prog 59 := callable_of Tryd.func59 (by kernel_rfl) (by kernel_rfl)
theorem u8s_map (l : List UInt8) : u8s l = List.map dU l := rfl
theorem mixed : Tryd.prog.follows .mixedOrders = true := Tryd.checked.mixed
theorem upd_at {α : Type} (σ : Nat → α) (d : Nat) (x : α) (i : Nat) : upd σ d x i = if i = d then x else σ i := rfl
theorem take_drop_all {α : Type} (l : List α) (i : Nat) : (l.drop i).take (l.length - i) = l.drop i := List.take_of_length_le (by simp)
theorem drop_map0 {α β : Type} (f : α → β) (l : List α) (i : Nat) : (l.map f).drop i = (l.drop i).map f := List.map_drop.symm
theorem take_map0 {α β : Type} (f : α → β) (l : List α) (i : Nat) : (l.map f).take i = (l.take i).map f := List.map_take.symm
theorem inrO_fin {S R : Type} {b : S → Option (S ⊕ R)} {n : Nat} {x : Option R} {o : S ⊕ R} {out : R} (h : inrO x = some o) (hF : Fin' b n o out) : x = some out := by
  obtain ⟨r, h1, rfl⟩ := inrO_some h
  cases hF
  exact h1
theorem inl_fin {S R : Type} {b : S → Option (S ⊕ R)} {n : Nat} {s : S} {o : S ⊕ R} {out : R} (h : (some (.inl s) : Option (S ⊕ R)) = some o) (hF : Fin' b n o out) : Fin' b n (.inl s) out := by
  obtain rfl := Option.some.inj h
  exact hF
end Go.Proofs.YtghmojcecefgjaaDoor
