/- Facts on types, and which functions can be called. -/
import Derived.Test.YtjgimofnepechaaGreatDoorZad
import Derived.Test.YtjgimofnepechaaGreatDoorRows
set_option linter.unusedVariables false
set_option linter.unusedSimpArgs false
namespace Go.Proofs.YtjgimofnepechaaGreatDoor
open Go.RowKit
theorem tKnown_3 : tKnown Tryz.prog 3 = true := by kernel_rfl
theorem tSize_3 : tSize Tryz.prog 3 = 1 := by kernel_rfl
theorem tAgg_3 : tAgg Tryz.prog 3 = false := by kernel_rfl
theorem tZok_3 : tZok Tryz.prog 3 = true := by kernel_rfl
theorem tZ_3 : tZ Tryz.prog 3 = [.int .i64 0] := by kernel_rfl
theorem tCS_3 : tCS Tryz.prog 3 = [0] := by kernel_rfl
theorem tBytes_3 : tBytes Tryz.prog 3 = 8 := by kernel_rfl
theorem tKnown_4 : tKnown Tryz.prog 4 = true := by kernel_rfl
theorem tSize_4 : tSize Tryz.prog 4 = 1 := by kernel_rfl
theorem tAgg_4 : tAgg Tryz.prog 4 = false := by kernel_rfl
theorem tCS_4 : tCS Tryz.prog 4 = [0] := by kernel_rfl
theorem tKnown_5 : tKnown Tryz.prog 5 = true := by kernel_rfl
theorem tSize_5 : tSize Tryz.prog 5 = 1 := by kernel_rfl
theorem tAgg_5 : tAgg Tryz.prog 5 = false := by kernel_rfl
theorem tZok_5 : tZok Tryz.prog 5 = true := by kernel_rfl
theorem tZ_5 : tZ Tryz.prog 5 = [.int .u8 0] := by kernel_rfl
theorem tCS_5 : tCS Tryz.prog 5 = [0] := by kernel_rfl
theorem tBytes_5 : tBytes Tryz.prog 5 = 1 := by kernel_rfl
theorem tZ1_5 : tZ1 Tryz.prog 5 = true := by kernel_rfl
theorem tKnown_9 : tKnown Tryz.prog 9 = true := by kernel_rfl
theorem tSize_9 : tSize Tryz.prog 9 = 1 := by kernel_rfl
theorem tAgg_9 : tAgg Tryz.prog 9 = false := by kernel_rfl
theorem tZok_9 : tZok Tryz.prog 9 = true := by kernel_rfl
theorem tZ_9 : tZ Tryz.prog 9 = [str []] := by kernel_rfl
theorem tCS_9 : tCS Tryz.prog 9 = [0] := by kernel_rfl
theorem tBytes_9 : tBytes Tryz.prog 9 = 16 := by kernel_rfl
theorem tNoIface_9 : tNoIface Tryz.prog 9 = true := by kernel_rfl
theorem tAnyI_20 : tAnyI Tryz.prog 20 = true := by kernel_rfl
theorem tNilK_20 : tNilK Tryz.prog 20 = 4 := by kernel_rfl
theorem tKnown_23 : tKnown Tryz.prog 23 = true := by kernel_rfl
theorem tSize_23 : tSize Tryz.prog 23 = 1 := by kernel_rfl
theorem tAgg_23 : tAgg Tryz.prog 23 = false := by kernel_rfl
theorem tCS_23 : tCS Tryz.prog 23 = [2] := by kernel_rfl
theorem tSlice_23 : tSlice Tryz.prog 23 = true := by kernel_rfl
theorem tElem_23 : tElem Tryz.prog 23 = 97 := by kernel_rfl
theorem tKnown_24 : tKnown Tryz.prog 24 = true := by kernel_rfl
theorem tSize_24 : tSize Tryz.prog 24 = 1 := by kernel_rfl
theorem tAgg_24 : tAgg Tryz.prog 24 = false := by kernel_rfl
theorem tZok_24 : tZok Tryz.prog 24 = true := by kernel_rfl
theorem tZ_24 : tZ Tryz.prog 24 = [.slice none 0 0] := by kernel_rfl
theorem tCS_24 : tCS Tryz.prog 24 = [1] := by kernel_rfl
theorem tBytes_24 : tBytes Tryz.prog 24 = 24 := by kernel_rfl
theorem tNilK_24 : tNilK Tryz.prog 24 = 1 := by kernel_rfl
theorem tSlice_24 : tSlice Tryz.prog 24 = true := by kernel_rfl
theorem tElem_24 : tElem Tryz.prog 24 = 9 := by kernel_rfl
theorem arrTy0_24 : arrTy0 24 = false := by kernel_rfl
theorem arrTy_24 : arrTy 24 = true := by kernel_rfl
theorem tKnown_25 : tKnown Tryz.prog 25 = true := by kernel_rfl
theorem tSize_25 : tSize Tryz.prog 25 = 1 := by kernel_rfl
theorem tAgg_25 : tAgg Tryz.prog 25 = false := by kernel_rfl
theorem tZok_25 : tZok Tryz.prog 25 = true := by kernel_rfl
theorem tZ_25 : tZ Tryz.prog 25 = [.slice none 0 0] := by kernel_rfl
theorem tCS_25 : tCS Tryz.prog 25 = [11] := by kernel_rfl
theorem tBytes_25 : tBytes Tryz.prog 25 = 24 := by kernel_rfl
theorem tNilK_25 : tNilK Tryz.prog 25 = 1 := by kernel_rfl
theorem tSlice_25 : tSlice Tryz.prog 25 = true := by kernel_rfl
theorem tElem_25 : tElem Tryz.prog 25 = 39 := by kernel_rfl
theorem arrTy0_25 : arrTy0 25 = true := by kernel_rfl
theorem arrTy_25 : arrTy 25 = true := by kernel_rfl
theorem tKnown_27 : tKnown Tryz.prog 27 = true := by kernel_rfl
theorem tSize_27 : tSize Tryz.prog 27 = 1 := by kernel_rfl
theorem tAgg_27 : tAgg Tryz.prog 27 = false := by kernel_rfl
theorem tCS_27 : tCS Tryz.prog 27 = [0] := by kernel_rfl
theorem tKnown_29 : tKnown Tryz.prog 29 = true := by kernel_rfl
theorem tSize_29 : tSize Tryz.prog 29 = 3 := by kernel_rfl
theorem tAgg_29 : tAgg Tryz.prog 29 = true := by kernel_rfl
theorem tZok_29 : tZok Tryz.prog 29 = true := by kernel_rfl
theorem tZ_29 : tZ Tryz.prog 29 = [.int .i64 0, .int .i64 0, .int .i64 0] := by kernel_rfl
theorem tCS_29 : tCS Tryz.prog 29 = [0, 0, 0] := by kernel_rfl
theorem tPlain_29 : tPlain Tryz.prog 29 = true := by kernel_rfl
theorem tFlat_29 : tFlat Tryz.prog 29 = true := by kernel_rfl
theorem tKinds_29 : tKinds Tryz.prog 29 = [1, 1, 1] := by kernel_rfl
theorem tStruct_29_0 : tStruct Tryz.prog 29 0 = true := by kernel_rfl
theorem tOff_29_0 : tOff Tryz.prog 29 0 = 0 := by kernel_rfl
theorem tFld_29_0 : tFld Tryz.prog 29 0 = 27 := by kernel_rfl
theorem tStruct_29_1 : tStruct Tryz.prog 29 1 = true := by kernel_rfl
theorem tOff_29_1 : tOff Tryz.prog 29 1 = 1 := by kernel_rfl
theorem tFld_29_1 : tFld Tryz.prog 29 1 = 3 := by kernel_rfl
theorem tStruct_29_2 : tStruct Tryz.prog 29 2 = true := by kernel_rfl
theorem tOff_29_2 : tOff Tryz.prog 29 2 = 2 := by kernel_rfl
theorem tFld_29_2 : tFld Tryz.prog 29 2 = 3 := by kernel_rfl
theorem tKnown_32 : tKnown Tryz.prog 32 = true := by kernel_rfl
theorem tSize_32 : tSize Tryz.prog 32 = 1 := by kernel_rfl
theorem tAgg_32 : tAgg Tryz.prog 32 = false := by kernel_rfl
theorem tCS_32 : tCS Tryz.prog 32 = [5] := by kernel_rfl
theorem tSlice_32 : tSlice Tryz.prog 32 = true := by kernel_rfl
theorem tElem_32 : tElem Tryz.prog 32 = 43 := by kernel_rfl
theorem arrTy0_32 : arrTy0 32 = false := by kernel_rfl
theorem arrTy_32 : arrTy 32 = false := by kernel_rfl
theorem tKnown_37 : tKnown Tryz.prog 37 = true := by kernel_rfl
theorem tSize_37 : tSize Tryz.prog 37 = 1 := by kernel_rfl
theorem tAgg_37 : tAgg Tryz.prog 37 = false := by kernel_rfl
theorem tZok_37 : tZok Tryz.prog 37 = true := by kernel_rfl
theorem tZ_37 : tZ Tryz.prog 37 = [.slice none 0 0] := by kernel_rfl
theorem tCS_37 : tCS Tryz.prog 37 = [3] := by kernel_rfl
theorem tBytes_37 : tBytes Tryz.prog 37 = 24 := by kernel_rfl
theorem tNilK_37 : tNilK Tryz.prog 37 = 1 := by kernel_rfl
theorem tSlice_37 : tSlice Tryz.prog 37 = true := by kernel_rfl
theorem tElem_37 : tElem Tryz.prog 37 = 49 := by kernel_rfl
theorem arrTy0_37 : arrTy0 37 = false := by kernel_rfl
theorem arrTy_37 : arrTy 37 = false := by kernel_rfl
theorem tKnown_39 : tKnown Tryz.prog 39 = true := by kernel_rfl
theorem tSize_39 : tSize Tryz.prog 39 = 11 := by kernel_rfl
theorem tAgg_39 : tAgg Tryz.prog 39 = true := by kernel_rfl
theorem tZok_39 : tZok Tryz.prog 39 = true := by kernel_rfl
theorem tZ_39 : tZ Tryz.prog 39 = [.int .i64 0, str [], .bool false, .bool false, .int .i64 0, .int .i64 0, .int .i64 0, .int .i64 0, .slice none 0 0, .slice none 0 0, .int .i64 0] := by kernel_rfl
theorem tCS_39 : tCS Tryz.prog 39 = [0, 0, 0, 0, 0, 0, 0, 0, 1, 3, 0] := by kernel_rfl
theorem tBytes_39 : tBytes Tryz.prog 39 = 120 := by kernel_rfl
theorem tPlain_39 : tPlain Tryz.prog 39 = true := by kernel_rfl
theorem tStruct_39_0 : tStruct Tryz.prog 39 0 = true := by kernel_rfl
theorem tOff_39_0 : tOff Tryz.prog 39 0 = 0 := by kernel_rfl
theorem tFld_39_0 : tFld Tryz.prog 39 0 = 3 := by kernel_rfl
theorem tStruct_39_1 : tStruct Tryz.prog 39 1 = true := by kernel_rfl
theorem tOff_39_1 : tOff Tryz.prog 39 1 = 1 := by kernel_rfl
theorem tFld_39_1 : tFld Tryz.prog 39 1 = 9 := by kernel_rfl
theorem tStruct_39_2 : tStruct Tryz.prog 39 2 = true := by kernel_rfl
theorem tOff_39_2 : tOff Tryz.prog 39 2 = 2 := by kernel_rfl
theorem tFld_39_2 : tFld Tryz.prog 39 2 = 4 := by kernel_rfl
theorem tStruct_39_3 : tStruct Tryz.prog 39 3 = true := by kernel_rfl
theorem tOff_39_3 : tOff Tryz.prog 39 3 = 3 := by kernel_rfl
theorem tFld_39_3 : tFld Tryz.prog 39 3 = 4 := by kernel_rfl
theorem tStruct_39_4 : tStruct Tryz.prog 39 4 = true := by kernel_rfl
theorem tOff_39_4 : tOff Tryz.prog 39 4 = 4 := by kernel_rfl
theorem tFld_39_4 : tFld Tryz.prog 39 4 = 3 := by kernel_rfl
theorem tStruct_39_5 : tStruct Tryz.prog 39 5 = true := by kernel_rfl
theorem tOff_39_5 : tOff Tryz.prog 39 5 = 5 := by kernel_rfl
theorem tFld_39_5 : tFld Tryz.prog 39 5 = 3 := by kernel_rfl
theorem tStruct_39_6 : tStruct Tryz.prog 39 6 = true := by kernel_rfl
theorem tOff_39_6 : tOff Tryz.prog 39 6 = 6 := by kernel_rfl
theorem tFld_39_6 : tFld Tryz.prog 39 6 = 3 := by kernel_rfl
theorem tStruct_39_7 : tStruct Tryz.prog 39 7 = true := by kernel_rfl
theorem tOff_39_7 : tOff Tryz.prog 39 7 = 7 := by kernel_rfl
theorem tFld_39_7 : tFld Tryz.prog 39 7 = 3 := by kernel_rfl
theorem tStruct_39_8 : tStruct Tryz.prog 39 8 = true := by kernel_rfl
theorem tOff_39_8 : tOff Tryz.prog 39 8 = 8 := by kernel_rfl
theorem tFld_39_8 : tFld Tryz.prog 39 8 = 24 := by kernel_rfl
theorem tStruct_39_9 : tStruct Tryz.prog 39 9 = true := by kernel_rfl
theorem tOff_39_9 : tOff Tryz.prog 39 9 = 9 := by kernel_rfl
theorem tFld_39_9 : tFld Tryz.prog 39 9 = 37 := by kernel_rfl
theorem tStruct_39_10 : tStruct Tryz.prog 39 10 = true := by kernel_rfl
theorem tOff_39_10 : tOff Tryz.prog 39 10 = 10 := by kernel_rfl
theorem tFld_39_10 : tFld Tryz.prog 39 10 = 3 := by kernel_rfl
theorem tKnown_43 : tKnown Tryz.prog 43 = true := by kernel_rfl
theorem tSize_43 : tSize Tryz.prog 43 = 5 := by kernel_rfl
theorem tAgg_43 : tAgg Tryz.prog 43 = true := by kernel_rfl
theorem tZok_43 : tZok Tryz.prog 43 = true := by kernel_rfl
theorem tZ_43 : tZ Tryz.prog 43 = [str [], .bool false, .slice none 0 0, .bool false, .slice none 0 0] := by kernel_rfl
theorem tCS_43 : tCS Tryz.prog 43 = [0, 0, 1, 0, 11] := by kernel_rfl
theorem tBytes_43 : tBytes Tryz.prog 43 = 80 := by kernel_rfl
theorem tPlain_43 : tPlain Tryz.prog 43 = true := by kernel_rfl
theorem tStruct_43_0 : tStruct Tryz.prog 43 0 = true := by kernel_rfl
theorem tOff_43_0 : tOff Tryz.prog 43 0 = 0 := by kernel_rfl
theorem tFld_43_0 : tFld Tryz.prog 43 0 = 9 := by kernel_rfl
theorem tStruct_43_1 : tStruct Tryz.prog 43 1 = true := by kernel_rfl
theorem tOff_43_1 : tOff Tryz.prog 43 1 = 1 := by kernel_rfl
theorem tFld_43_1 : tFld Tryz.prog 43 1 = 4 := by kernel_rfl
theorem tStruct_43_2 : tStruct Tryz.prog 43 2 = true := by kernel_rfl
theorem tOff_43_2 : tOff Tryz.prog 43 2 = 2 := by kernel_rfl
theorem tFld_43_2 : tFld Tryz.prog 43 2 = 24 := by kernel_rfl
theorem tStruct_43_3 : tStruct Tryz.prog 43 3 = true := by kernel_rfl
theorem tOff_43_3 : tOff Tryz.prog 43 3 = 3 := by kernel_rfl
theorem tFld_43_3 : tFld Tryz.prog 43 3 = 4 := by kernel_rfl
theorem tStruct_43_4 : tStruct Tryz.prog 43 4 = true := by kernel_rfl
theorem tOff_43_4 : tOff Tryz.prog 43 4 = 4 := by kernel_rfl
theorem tFld_43_4 : tFld Tryz.prog 43 4 = 25 := by kernel_rfl
theorem tKnown_49 : tKnown Tryz.prog 49 = true := by kernel_rfl
theorem tSize_49 : tSize Tryz.prog 49 = 3 := by kernel_rfl
theorem tAgg_49 : tAgg Tryz.prog 49 = true := by kernel_rfl
theorem tZok_49 : tZok Tryz.prog 49 = true := by kernel_rfl
theorem tZ_49 : tZ Tryz.prog 49 = [str [], .int .i64 0, .int .i64 0] := by kernel_rfl
theorem tCS_49 : tCS Tryz.prog 49 = [0, 0, 0] := by kernel_rfl
theorem tBytes_49 : tBytes Tryz.prog 49 = 32 := by kernel_rfl
theorem tPlain_49 : tPlain Tryz.prog 49 = true := by kernel_rfl
theorem tFlat_49 : tFlat Tryz.prog 49 = true := by kernel_rfl
theorem tKinds_49 : tKinds Tryz.prog 49 = [2, 1, 1] := by kernel_rfl
theorem tStruct_49_0 : tStruct Tryz.prog 49 0 = true := by kernel_rfl
theorem tOff_49_0 : tOff Tryz.prog 49 0 = 0 := by kernel_rfl
theorem tFld_49_0 : tFld Tryz.prog 49 0 = 9 := by kernel_rfl
theorem tStruct_49_1 : tStruct Tryz.prog 49 1 = true := by kernel_rfl
theorem tOff_49_1 : tOff Tryz.prog 49 1 = 1 := by kernel_rfl
theorem tFld_49_1 : tFld Tryz.prog 49 1 = 3 := by kernel_rfl
theorem tStruct_49_2 : tStruct Tryz.prog 49 2 = true := by kernel_rfl
theorem tOff_49_2 : tOff Tryz.prog 49 2 = 2 := by kernel_rfl
theorem tFld_49_2 : tFld Tryz.prog 49 2 = 3 := by kernel_rfl
theorem tZok_57 : tZok Tryz.prog 57 = true := by kernel_rfl
theorem tZ_57 : tZ Tryz.prog 57 = [.slice none 0 0, .slice none 0 0, .int .i64 0, .int .i64 0] := by kernel_rfl
theorem tCS_57 : tCS Tryz.prog 57 = [5, 2, 0, 0] := by kernel_rfl
theorem tPlain_57 : tPlain Tryz.prog 57 = true := by kernel_rfl
theorem tStruct_57_0 : tStruct Tryz.prog 57 0 = true := by kernel_rfl
theorem tOff_57_0 : tOff Tryz.prog 57 0 = 0 := by kernel_rfl
theorem tFld_57_0 : tFld Tryz.prog 57 0 = 32 := by kernel_rfl
theorem tStruct_57_1 : tStruct Tryz.prog 57 1 = true := by kernel_rfl
theorem tOff_57_1 : tOff Tryz.prog 57 1 = 1 := by kernel_rfl
theorem tFld_57_1 : tFld Tryz.prog 57 1 = 23 := by kernel_rfl
theorem tStruct_57_2 : tStruct Tryz.prog 57 2 = true := by kernel_rfl
theorem tOff_57_2 : tOff Tryz.prog 57 2 = 2 := by kernel_rfl
theorem tFld_57_2 : tFld Tryz.prog 57 2 = 3 := by kernel_rfl
theorem tStruct_57_3 : tStruct Tryz.prog 57 3 = true := by kernel_rfl
theorem tOff_57_3 : tOff Tryz.prog 57 3 = 3 := by kernel_rfl
theorem tFld_57_3 : tFld Tryz.prog 57 3 = 3 := by kernel_rfl
theorem tKnown_68 : tKnown Tryz.prog 68 = true := by kernel_rfl
theorem tSize_68 : tSize Tryz.prog 68 = 1 := by kernel_rfl
theorem tAgg_68 : tAgg Tryz.prog 68 = false := by kernel_rfl
theorem tCS_68 : tCS Tryz.prog 68 = [1] := by kernel_rfl
theorem tSlice_68 : tSlice Tryz.prog 68 = true := by kernel_rfl
theorem tElem_68 : tElem Tryz.prog 68 = 3 := by kernel_rfl
theorem arrTy0_68 : arrTy0 68 = false := by kernel_rfl
theorem arrTy_68 : arrTy 68 = false := by kernel_rfl
theorem tKnown_70 : tKnown Tryz.prog 70 = true := by kernel_rfl
theorem tSize_70 : tSize Tryz.prog 70 = 2 := by kernel_rfl
theorem tAgg_70 : tAgg Tryz.prog 70 = true := by kernel_rfl
theorem tZok_70 : tZok Tryz.prog 70 = true := by kernel_rfl
theorem tZ_70 : tZ Tryz.prog 70 = [str [], .slice none 0 0] := by kernel_rfl
theorem tCS_70 : tCS Tryz.prog 70 = [0, 1] := by kernel_rfl
theorem tPlain_70 : tPlain Tryz.prog 70 = true := by kernel_rfl
theorem tStruct_70_0 : tStruct Tryz.prog 70 0 = true := by kernel_rfl
theorem tOff_70_0 : tOff Tryz.prog 70 0 = 0 := by kernel_rfl
theorem tFld_70_0 : tFld Tryz.prog 70 0 = 9 := by kernel_rfl
theorem tStruct_70_1 : tStruct Tryz.prog 70 1 = true := by kernel_rfl
theorem tOff_70_1 : tOff Tryz.prog 70 1 = 1 := by kernel_rfl
theorem tFld_70_1 : tFld Tryz.prog 70 1 = 68 := by kernel_rfl
theorem tKnown_78 : tKnown Tryz.prog 78 = true := by kernel_rfl
theorem tSize_78 : tSize Tryz.prog 78 = 3 := by kernel_rfl
theorem tAgg_78 : tAgg Tryz.prog 78 = true := by kernel_rfl
theorem tZok_78 : tZok Tryz.prog 78 = true := by kernel_rfl
theorem tZ_78 : tZ Tryz.prog 78 = [.int .i64 0, .int .i64 0, .int .i64 0] := by kernel_rfl
theorem tCS_78 : tCS Tryz.prog 78 = [0, 0, 0] := by kernel_rfl
theorem tNoIface_78 : tNoIface Tryz.prog 78 = true := by kernel_rfl
theorem tPlain_78 : tPlain Tryz.prog 78 = true := by kernel_rfl
theorem tStruct_78_0 : tStruct Tryz.prog 78 0 = true := by kernel_rfl
theorem tOff_78_0 : tOff Tryz.prog 78 0 = 0 := by kernel_rfl
theorem tFld_78_0 : tFld Tryz.prog 78 0 = 29 := by kernel_rfl
theorem tKnown_79 : tKnown Tryz.prog 79 = true := by kernel_rfl
theorem tSize_79 : tSize Tryz.prog 79 = 1 := by kernel_rfl
theorem tAgg_79 : tAgg Tryz.prog 79 = false := by kernel_rfl
theorem tZok_79 : tZok Tryz.prog 79 = true := by kernel_rfl
theorem tZ_79 : tZ Tryz.prog 79 = [.slice none 0 0] := by kernel_rfl
theorem tCS_79 : tCS Tryz.prog 79 = [11] := by kernel_rfl
theorem tNilK_79 : tNilK Tryz.prog 79 = 1 := by kernel_rfl
theorem tSlice_79 : tSlice Tryz.prog 79 = true := by kernel_rfl
theorem tElem_79 : tElem Tryz.prog 79 = 39 := by kernel_rfl
theorem arrTy0_79 : arrTy0 79 = true := by kernel_rfl
theorem arrTy_79 : arrTy 79 = true := by kernel_rfl
theorem tKnown_97 : tKnown Tryz.prog 97 = true := by kernel_rfl
theorem tSize_97 : tSize Tryz.prog 97 = 2 := by kernel_rfl
theorem tAgg_97 : tAgg Tryz.prog 97 = true := by kernel_rfl
theorem tZok_97 : tZok Tryz.prog 97 = true := by kernel_rfl
theorem tZ_97 : tZ Tryz.prog 97 = [str [], str []] := by kernel_rfl
theorem tCS_97 : tCS Tryz.prog 97 = [0, 0] := by kernel_rfl
theorem tBytes_97 : tBytes Tryz.prog 97 = 32 := by kernel_rfl
theorem tStruct_97_0 : tStruct Tryz.prog 97 0 = true := by kernel_rfl
theorem tOff_97_0 : tOff Tryz.prog 97 0 = 0 := by kernel_rfl
theorem tFld_97_0 : tFld Tryz.prog 97 0 = 9 := by kernel_rfl
theorem tKnown_99 : tKnown Tryz.prog 99 = true := by kernel_rfl
theorem tSize_99 : tSize Tryz.prog 99 = 1 := by kernel_rfl
theorem tAgg_99 : tAgg Tryz.prog 99 = false := by kernel_rfl
theorem tCS_99 : tCS Tryz.prog 99 = [1] := by kernel_rfl
theorem tSlice_99 : tSlice Tryz.prog 99 = true := by kernel_rfl
theorem tElem_99 : tElem Tryz.prog 99 = 25 := by kernel_rfl
theorem arrTy0_99 : arrTy0 99 = false := by kernel_rfl
theorem arrTy_99 : arrTy 99 = false := by kernel_rfl
theorem tSlice_131 : tSlice Tryz.prog 131 = true := by kernel_rfl
theorem tElem_131 : tElem Tryz.prog 131 = 24 := by kernel_rfl
theorem tSlice_136 : tSlice Tryz.prog 136 = true := by kernel_rfl
theorem tElem_136 : tElem Tryz.prog 136 = 37 := by kernel_rfl
theorem tKnown_139 : tKnown Tryz.prog 139 = true := by kernel_rfl
theorem tSize_139 : tSize Tryz.prog 139 = 1 := by kernel_rfl
theorem tAgg_139 : tAgg Tryz.prog 139 = false := by kernel_rfl
theorem tCS_139 : tCS Tryz.prog 139 = [1] := by kernel_rfl
theorem tSlice_139 : tSlice Tryz.prog 139 = true := by kernel_rfl
theorem tElem_139 : tElem Tryz.prog 139 = 5 := by kernel_rfl
theorem arrTy0_139 : arrTy0 139 = false := by kernel_rfl
theorem arrTy_139 : arrTy 139 = true := by kernel_rfl
theorem tZok_141 : tZok Tryz.prog 141 = true := by kernel_rfl
theorem tZ_141 : tZ Tryz.prog 141 = [.pointer none, .slice none 0 0] := by kernel_rfl
theorem tCS_141 : tCS Tryz.prog 141 = [0, 1] := by kernel_rfl
theorem tStruct_141_0 : tStruct Tryz.prog 141 0 = true := by kernel_rfl
theorem tOff_141_0 : tOff Tryz.prog 141 0 = 0 := by kernel_rfl
theorem tFld_141_0 : tFld Tryz.prog 141 0 = 138 := by kernel_rfl
theorem tStruct_141_1 : tStruct Tryz.prog 141 1 = true := by kernel_rfl
theorem tOff_141_1 : tOff Tryz.prog 141 1 = 1 := by kernel_rfl
theorem tFld_141_1 : tFld Tryz.prog 141 1 = 139 := by kernel_rfl
theorem tZok_179 : tZok Tryz.prog 179 = true := by kernel_rfl
theorem tZ_179 : tZ Tryz.prog 179 = [str [], .slice none 0 0, str [], .int .i64 0, .int .i64 0, .slice none 0 0] := by kernel_rfl
theorem tCS_179 : tCS Tryz.prog 179 = [0, 1, 0, 0, 0, 11] := by kernel_rfl
theorem tPlain_179 : tPlain Tryz.prog 179 = true := by kernel_rfl
theorem tStruct_179_0 : tStruct Tryz.prog 179 0 = true := by kernel_rfl
theorem tOff_179_0 : tOff Tryz.prog 179 0 = 0 := by kernel_rfl
theorem tFld_179_0 : tFld Tryz.prog 179 0 = 70 := by kernel_rfl
theorem tStruct_179_1 : tStruct Tryz.prog 179 1 = true := by kernel_rfl
theorem tOff_179_1 : tOff Tryz.prog 179 1 = 2 := by kernel_rfl
theorem tFld_179_1 : tFld Tryz.prog 179 1 = 9 := by kernel_rfl
theorem tStruct_179_2 : tStruct Tryz.prog 179 2 = true := by kernel_rfl
theorem tOff_179_2 : tOff Tryz.prog 179 2 = 3 := by kernel_rfl
theorem tFld_179_2 : tFld Tryz.prog 179 2 = 3 := by kernel_rfl
theorem tStruct_179_3 : tStruct Tryz.prog 179 3 = true := by kernel_rfl
theorem tOff_179_3 : tOff Tryz.prog 179 3 = 4 := by kernel_rfl
theorem tFld_179_3 : tFld Tryz.prog 179 3 = 3 := by kernel_rfl
theorem tStruct_179_4 : tStruct Tryz.prog 179 4 = true := by kernel_rfl
theorem tOff_179_4 : tOff Tryz.prog 179 4 = 5 := by kernel_rfl
theorem tFld_179_4 : tFld Tryz.prog 179 4 = 25 := by kernel_rfl
theorem y_3 : ((((type_of% @Tryz.underlying3) ∧ (type_of% @tAgg_3)) ∧ ((type_of% @tBytes_3) ∧ (type_of% @tCS_3))) ∧ (((type_of% @tKnown_3) ∧ (type_of% @tSize_3)) ∧ ((type_of% @tZ_3) ∧ (type_of% @tZok_3)))) := ⟨⟨⟨@Tryz.underlying3, @tAgg_3⟩, ⟨@tBytes_3, @tCS_3⟩⟩, ⟨⟨@tKnown_3, @tSize_3⟩, ⟨@tZ_3, @tZok_3⟩⟩⟩
theorem y_4 : (((type_of% @Tryz.underlying4) ∧ (type_of% @tAgg_4)) ∧ ((type_of% @tCS_4) ∧ ((type_of% @tKnown_4) ∧ (type_of% @tSize_4)))) := ⟨⟨@Tryz.underlying4, @tAgg_4⟩, ⟨@tCS_4, ⟨@tKnown_4, @tSize_4⟩⟩⟩
theorem y_5 : ((((type_of% @Tryz.underlying5) ∧ (type_of% @tAgg_5)) ∧ ((type_of% @tBytes_5) ∧ (type_of% @tCS_5))) ∧ (((type_of% @tKnown_5) ∧ (type_of% @tSize_5)) ∧ ((type_of% @tZ1_5) ∧ ((type_of% @tZ_5) ∧ (type_of% @tZok_5))))) := ⟨⟨⟨@Tryz.underlying5, @tAgg_5⟩, ⟨@tBytes_5, @tCS_5⟩⟩, ⟨⟨@tKnown_5, @tSize_5⟩, ⟨@tZ1_5, ⟨@tZ_5, @tZok_5⟩⟩⟩⟩
theorem y_9 : ((((type_of% @Tryz.underlying9) ∧ (type_of% @tAgg_9)) ∧ ((type_of% @tBytes_9) ∧ (type_of% @tCS_9))) ∧ (((type_of% @tKnown_9) ∧ (type_of% @tNoIface_9)) ∧ ((type_of% @tSize_9) ∧ ((type_of% @tZ_9) ∧ (type_of% @tZok_9))))) := ⟨⟨⟨@Tryz.underlying9, @tAgg_9⟩, ⟨@tBytes_9, @tCS_9⟩⟩, ⟨⟨@tKnown_9, @tNoIface_9⟩, ⟨@tSize_9, ⟨@tZ_9, @tZok_9⟩⟩⟩⟩
theorem y_20 : ((type_of% @tAnyI_20) ∧ (type_of% @tNilK_20)) := ⟨@tAnyI_20, @tNilK_20⟩
theorem y_23 : (((type_of% @tAgg_23) ∧ ((type_of% @tCS_23) ∧ (type_of% @tElem_23))) ∧ ((type_of% @tKnown_23) ∧ ((type_of% @tSize_23) ∧ (type_of% @tSlice_23)))) := ⟨⟨@tAgg_23, ⟨@tCS_23, @tElem_23⟩⟩, ⟨@tKnown_23, ⟨@tSize_23, @tSlice_23⟩⟩⟩
theorem y_24 : ((((type_of% @arrTy0_24) ∧ ((type_of% @arrTy_24) ∧ (type_of% @tAgg_24))) ∧ ((type_of% @tBytes_24) ∧ ((type_of% @tCS_24) ∧ (type_of% @tElem_24)))) ∧ (((type_of% @tKnown_24) ∧ ((type_of% @tNilK_24) ∧ (type_of% @tSize_24))) ∧ ((type_of% @tSlice_24) ∧ ((type_of% @tZ_24) ∧ (type_of% @tZok_24))))) := ⟨⟨⟨@arrTy0_24, ⟨@arrTy_24, @tAgg_24⟩⟩, ⟨@tBytes_24, ⟨@tCS_24, @tElem_24⟩⟩⟩, ⟨⟨@tKnown_24, ⟨@tNilK_24, @tSize_24⟩⟩, ⟨@tSlice_24, ⟨@tZ_24, @tZok_24⟩⟩⟩⟩
theorem y_25 : ((((type_of% @arrTy0_25) ∧ ((type_of% @arrTy_25) ∧ (type_of% @tAgg_25))) ∧ ((type_of% @tBytes_25) ∧ ((type_of% @tCS_25) ∧ (type_of% @tElem_25)))) ∧ (((type_of% @tKnown_25) ∧ ((type_of% @tNilK_25) ∧ (type_of% @tSize_25))) ∧ ((type_of% @tSlice_25) ∧ ((type_of% @tZ_25) ∧ (type_of% @tZok_25))))) := ⟨⟨⟨@arrTy0_25, ⟨@arrTy_25, @tAgg_25⟩⟩, ⟨@tBytes_25, ⟨@tCS_25, @tElem_25⟩⟩⟩, ⟨⟨@tKnown_25, ⟨@tNilK_25, @tSize_25⟩⟩, ⟨@tSlice_25, ⟨@tZ_25, @tZok_25⟩⟩⟩⟩
theorem y_27 : (((type_of% @tAgg_27) ∧ (type_of% @tCS_27)) ∧ ((type_of% @tKnown_27) ∧ (type_of% @tSize_27))) := ⟨⟨@tAgg_27, @tCS_27⟩, ⟨@tKnown_27, @tSize_27⟩⟩
theorem y_29 : (((((type_of% @tAgg_29) ∧ (type_of% @tCS_29)) ∧ ((type_of% @tFlat_29) ∧ (type_of% @tFld_29_0))) ∧ (((type_of% @tFld_29_1) ∧ (type_of% @tFld_29_2)) ∧ ((type_of% @tKinds_29) ∧ ((type_of% @tKnown_29) ∧ (type_of% @tOff_29_0))))) ∧ ((((type_of% @tOff_29_1) ∧ (type_of% @tOff_29_2)) ∧ ((type_of% @tPlain_29) ∧ (type_of% @tSize_29))) ∧ (((type_of% @tStruct_29_0) ∧ (type_of% @tStruct_29_1)) ∧ ((type_of% @tStruct_29_2) ∧ ((type_of% @tZ_29) ∧ (type_of% @tZok_29)))))) := ⟨⟨⟨⟨@tAgg_29, @tCS_29⟩, ⟨@tFlat_29, @tFld_29_0⟩⟩, ⟨⟨@tFld_29_1, @tFld_29_2⟩, ⟨@tKinds_29, ⟨@tKnown_29, @tOff_29_0⟩⟩⟩⟩, ⟨⟨⟨@tOff_29_1, @tOff_29_2⟩, ⟨@tPlain_29, @tSize_29⟩⟩, ⟨⟨@tStruct_29_0, @tStruct_29_1⟩, ⟨@tStruct_29_2, ⟨@tZ_29, @tZok_29⟩⟩⟩⟩⟩
theorem y_32 : ((((type_of% @arrTy0_32) ∧ (type_of% @arrTy_32)) ∧ ((type_of% @tAgg_32) ∧ (type_of% @tCS_32))) ∧ (((type_of% @tElem_32) ∧ (type_of% @tKnown_32)) ∧ ((type_of% @tSize_32) ∧ (type_of% @tSlice_32)))) := ⟨⟨⟨@arrTy0_32, @arrTy_32⟩, ⟨@tAgg_32, @tCS_32⟩⟩, ⟨⟨@tElem_32, @tKnown_32⟩, ⟨@tSize_32, @tSlice_32⟩⟩⟩
theorem y_37 : ((((type_of% @arrTy0_37) ∧ ((type_of% @arrTy_37) ∧ (type_of% @tAgg_37))) ∧ ((type_of% @tBytes_37) ∧ ((type_of% @tCS_37) ∧ (type_of% @tElem_37)))) ∧ (((type_of% @tKnown_37) ∧ ((type_of% @tNilK_37) ∧ (type_of% @tSize_37))) ∧ ((type_of% @tSlice_37) ∧ ((type_of% @tZ_37) ∧ (type_of% @tZok_37))))) := ⟨⟨⟨@arrTy0_37, ⟨@arrTy_37, @tAgg_37⟩⟩, ⟨@tBytes_37, ⟨@tCS_37, @tElem_37⟩⟩⟩, ⟨⟨@tKnown_37, ⟨@tNilK_37, @tSize_37⟩⟩, ⟨@tSlice_37, ⟨@tZ_37, @tZok_37⟩⟩⟩⟩
theorem y_39 : ((((((type_of% @tAgg_39) ∧ (type_of% @tBytes_39)) ∧ ((type_of% @tCS_39) ∧ ((type_of% @tFld_39_0) ∧ (type_of% @tFld_39_1)))) ∧ (((type_of% @tFld_39_10) ∧ (type_of% @tFld_39_2)) ∧ ((type_of% @tFld_39_3) ∧ ((type_of% @tFld_39_4) ∧ (type_of% @tFld_39_5))))) ∧ ((((type_of% @tFld_39_6) ∧ (type_of% @tFld_39_7)) ∧ ((type_of% @tFld_39_8) ∧ ((type_of% @tFld_39_9) ∧ (type_of% @tKnown_39)))) ∧ (((type_of% @tOff_39_0) ∧ (type_of% @tOff_39_1)) ∧ ((type_of% @tOff_39_10) ∧ ((type_of% @tOff_39_2) ∧ (type_of% @tOff_39_3)))))) ∧ (((((type_of% @tOff_39_4) ∧ (type_of% @tOff_39_5)) ∧ ((type_of% @tOff_39_6) ∧ ((type_of% @tOff_39_7) ∧ (type_of% @tOff_39_8)))) ∧ (((type_of% @tOff_39_9) ∧ (type_of% @tPlain_39)) ∧ ((type_of% @tSize_39) ∧ ((type_of% @tStruct_39_0) ∧ (type_of% @tStruct_39_1))))) ∧ ((((type_of% @tStruct_39_10) ∧ (type_of% @tStruct_39_2)) ∧ ((type_of% @tStruct_39_3) ∧ ((type_of% @tStruct_39_4) ∧ (type_of% @tStruct_39_5)))) ∧ (((type_of% @tStruct_39_6) ∧ ((type_of% @tStruct_39_7) ∧ (type_of% @tStruct_39_8))) ∧ ((type_of% @tStruct_39_9) ∧ ((type_of% @tZ_39) ∧ (type_of% @tZok_39))))))) := ⟨⟨⟨⟨⟨@tAgg_39, @tBytes_39⟩, ⟨@tCS_39, ⟨@tFld_39_0, @tFld_39_1⟩⟩⟩, ⟨⟨@tFld_39_10, @tFld_39_2⟩, ⟨@tFld_39_3, ⟨@tFld_39_4, @tFld_39_5⟩⟩⟩⟩, ⟨⟨⟨@tFld_39_6, @tFld_39_7⟩, ⟨@tFld_39_8, ⟨@tFld_39_9, @tKnown_39⟩⟩⟩, ⟨⟨@tOff_39_0, @tOff_39_1⟩, ⟨@tOff_39_10, ⟨@tOff_39_2, @tOff_39_3⟩⟩⟩⟩⟩, ⟨⟨⟨⟨@tOff_39_4, @tOff_39_5⟩, ⟨@tOff_39_6, ⟨@tOff_39_7, @tOff_39_8⟩⟩⟩, ⟨⟨@tOff_39_9, @tPlain_39⟩, ⟨@tSize_39, ⟨@tStruct_39_0, @tStruct_39_1⟩⟩⟩⟩, ⟨⟨⟨@tStruct_39_10, @tStruct_39_2⟩, ⟨@tStruct_39_3, ⟨@tStruct_39_4, @tStruct_39_5⟩⟩⟩, ⟨⟨@tStruct_39_6, ⟨@tStruct_39_7, @tStruct_39_8⟩⟩, ⟨@tStruct_39_9, ⟨@tZ_39, @tZok_39⟩⟩⟩⟩⟩⟩
theorem y_43 : (((((type_of% @tAgg_43) ∧ (type_of% @tBytes_43)) ∧ ((type_of% @tCS_43) ∧ ((type_of% @tFld_43_0) ∧ (type_of% @tFld_43_1)))) ∧ (((type_of% @tFld_43_2) ∧ ((type_of% @tFld_43_3) ∧ (type_of% @tFld_43_4))) ∧ ((type_of% @tKnown_43) ∧ ((type_of% @tOff_43_0) ∧ (type_of% @tOff_43_1))))) ∧ ((((type_of% @tOff_43_2) ∧ ((type_of% @tOff_43_3) ∧ (type_of% @tOff_43_4))) ∧ ((type_of% @tPlain_43) ∧ ((type_of% @tSize_43) ∧ (type_of% @tStruct_43_0)))) ∧ (((type_of% @tStruct_43_1) ∧ ((type_of% @tStruct_43_2) ∧ (type_of% @tStruct_43_3))) ∧ ((type_of% @tStruct_43_4) ∧ ((type_of% @tZ_43) ∧ (type_of% @tZok_43)))))) := ⟨⟨⟨⟨@tAgg_43, @tBytes_43⟩, ⟨@tCS_43, ⟨@tFld_43_0, @tFld_43_1⟩⟩⟩, ⟨⟨@tFld_43_2, ⟨@tFld_43_3, @tFld_43_4⟩⟩, ⟨@tKnown_43, ⟨@tOff_43_0, @tOff_43_1⟩⟩⟩⟩, ⟨⟨⟨@tOff_43_2, ⟨@tOff_43_3, @tOff_43_4⟩⟩, ⟨@tPlain_43, ⟨@tSize_43, @tStruct_43_0⟩⟩⟩, ⟨⟨@tStruct_43_1, ⟨@tStruct_43_2, @tStruct_43_3⟩⟩, ⟨@tStruct_43_4, ⟨@tZ_43, @tZok_43⟩⟩⟩⟩⟩
theorem y_49 : (((((type_of% @tAgg_49) ∧ (type_of% @tBytes_49)) ∧ ((type_of% @tCS_49) ∧ (type_of% @tFlat_49))) ∧ (((type_of% @tFld_49_0) ∧ (type_of% @tFld_49_1)) ∧ ((type_of% @tFld_49_2) ∧ ((type_of% @tKinds_49) ∧ (type_of% @tKnown_49))))) ∧ ((((type_of% @tOff_49_0) ∧ (type_of% @tOff_49_1)) ∧ ((type_of% @tOff_49_2) ∧ ((type_of% @tPlain_49) ∧ (type_of% @tSize_49)))) ∧ (((type_of% @tStruct_49_0) ∧ (type_of% @tStruct_49_1)) ∧ ((type_of% @tStruct_49_2) ∧ ((type_of% @tZ_49) ∧ (type_of% @tZok_49)))))) := ⟨⟨⟨⟨@tAgg_49, @tBytes_49⟩, ⟨@tCS_49, @tFlat_49⟩⟩, ⟨⟨@tFld_49_0, @tFld_49_1⟩, ⟨@tFld_49_2, ⟨@tKinds_49, @tKnown_49⟩⟩⟩⟩, ⟨⟨⟨@tOff_49_0, @tOff_49_1⟩, ⟨@tOff_49_2, ⟨@tPlain_49, @tSize_49⟩⟩⟩, ⟨⟨@tStruct_49_0, @tStruct_49_1⟩, ⟨@tStruct_49_2, ⟨@tZ_49, @tZok_49⟩⟩⟩⟩⟩
theorem y_57 : (((((type_of% @tCS_57) ∧ (type_of% @tFld_57_0)) ∧ ((type_of% @tFld_57_1) ∧ (type_of% @tFld_57_2))) ∧ (((type_of% @tFld_57_3) ∧ (type_of% @tOff_57_0)) ∧ ((type_of% @tOff_57_1) ∧ (type_of% @tOff_57_2)))) ∧ ((((type_of% @tOff_57_3) ∧ (type_of% @tPlain_57)) ∧ ((type_of% @tStruct_57_0) ∧ (type_of% @tStruct_57_1))) ∧ (((type_of% @tStruct_57_2) ∧ (type_of% @tStruct_57_3)) ∧ ((type_of% @tZ_57) ∧ (type_of% @tZok_57))))) := ⟨⟨⟨⟨@tCS_57, @tFld_57_0⟩, ⟨@tFld_57_1, @tFld_57_2⟩⟩, ⟨⟨@tFld_57_3, @tOff_57_0⟩, ⟨@tOff_57_1, @tOff_57_2⟩⟩⟩, ⟨⟨⟨@tOff_57_3, @tPlain_57⟩, ⟨@tStruct_57_0, @tStruct_57_1⟩⟩, ⟨⟨@tStruct_57_2, @tStruct_57_3⟩, ⟨@tZ_57, @tZok_57⟩⟩⟩⟩
theorem y_68 : ((((type_of% @arrTy0_68) ∧ (type_of% @arrTy_68)) ∧ ((type_of% @tAgg_68) ∧ (type_of% @tCS_68))) ∧ (((type_of% @tElem_68) ∧ (type_of% @tKnown_68)) ∧ ((type_of% @tSize_68) ∧ (type_of% @tSlice_68)))) := ⟨⟨⟨@arrTy0_68, @arrTy_68⟩, ⟨@tAgg_68, @tCS_68⟩⟩, ⟨⟨@tElem_68, @tKnown_68⟩, ⟨@tSize_68, @tSlice_68⟩⟩⟩
theorem y_70 : ((((type_of% @tAgg_70) ∧ ((type_of% @tCS_70) ∧ (type_of% @tFld_70_0))) ∧ ((type_of% @tFld_70_1) ∧ ((type_of% @tKnown_70) ∧ (type_of% @tOff_70_0)))) ∧ (((type_of% @tOff_70_1) ∧ ((type_of% @tPlain_70) ∧ (type_of% @tSize_70))) ∧ (((type_of% @tStruct_70_0) ∧ (type_of% @tStruct_70_1)) ∧ ((type_of% @tZ_70) ∧ (type_of% @tZok_70))))) := ⟨⟨⟨@tAgg_70, ⟨@tCS_70, @tFld_70_0⟩⟩, ⟨@tFld_70_1, ⟨@tKnown_70, @tOff_70_0⟩⟩⟩, ⟨⟨@tOff_70_1, ⟨@tPlain_70, @tSize_70⟩⟩, ⟨⟨@tStruct_70_0, @tStruct_70_1⟩, ⟨@tZ_70, @tZok_70⟩⟩⟩⟩
theorem y_78 : ((((type_of% @tAgg_78) ∧ (type_of% @tCS_78)) ∧ ((type_of% @tFld_78_0) ∧ ((type_of% @tKnown_78) ∧ (type_of% @tNoIface_78)))) ∧ (((type_of% @tOff_78_0) ∧ ((type_of% @tPlain_78) ∧ (type_of% @tSize_78))) ∧ ((type_of% @tStruct_78_0) ∧ ((type_of% @tZ_78) ∧ (type_of% @tZok_78))))) := ⟨⟨⟨@tAgg_78, @tCS_78⟩, ⟨@tFld_78_0, ⟨@tKnown_78, @tNoIface_78⟩⟩⟩, ⟨⟨@tOff_78_0, ⟨@tPlain_78, @tSize_78⟩⟩, ⟨@tStruct_78_0, ⟨@tZ_78, @tZok_78⟩⟩⟩⟩
theorem y_79 : ((((type_of% @arrTy0_79) ∧ (type_of% @arrTy_79)) ∧ ((type_of% @tAgg_79) ∧ ((type_of% @tCS_79) ∧ (type_of% @tElem_79)))) ∧ (((type_of% @tKnown_79) ∧ ((type_of% @tNilK_79) ∧ (type_of% @tSize_79))) ∧ ((type_of% @tSlice_79) ∧ ((type_of% @tZ_79) ∧ (type_of% @tZok_79))))) := ⟨⟨⟨@arrTy0_79, @arrTy_79⟩, ⟨@tAgg_79, ⟨@tCS_79, @tElem_79⟩⟩⟩, ⟨⟨@tKnown_79, ⟨@tNilK_79, @tSize_79⟩⟩, ⟨@tSlice_79, ⟨@tZ_79, @tZok_79⟩⟩⟩⟩
theorem y_97 : ((((type_of% @tAgg_97) ∧ (type_of% @tBytes_97)) ∧ ((type_of% @tCS_97) ∧ ((type_of% @tFld_97_0) ∧ (type_of% @tKnown_97)))) ∧ (((type_of% @tOff_97_0) ∧ (type_of% @tSize_97)) ∧ ((type_of% @tStruct_97_0) ∧ ((type_of% @tZ_97) ∧ (type_of% @tZok_97))))) := ⟨⟨⟨@tAgg_97, @tBytes_97⟩, ⟨@tCS_97, ⟨@tFld_97_0, @tKnown_97⟩⟩⟩, ⟨⟨@tOff_97_0, @tSize_97⟩, ⟨@tStruct_97_0, ⟨@tZ_97, @tZok_97⟩⟩⟩⟩
theorem y_99 : ((((type_of% @arrTy0_99) ∧ (type_of% @arrTy_99)) ∧ ((type_of% @tAgg_99) ∧ (type_of% @tCS_99))) ∧ (((type_of% @tElem_99) ∧ (type_of% @tKnown_99)) ∧ ((type_of% @tSize_99) ∧ (type_of% @tSlice_99)))) := ⟨⟨⟨@arrTy0_99, @arrTy_99⟩, ⟨@tAgg_99, @tCS_99⟩⟩, ⟨⟨@tElem_99, @tKnown_99⟩, ⟨@tSize_99, @tSlice_99⟩⟩⟩
theorem y_131 : ((type_of% @tElem_131) ∧ (type_of% @tSlice_131)) := ⟨@tElem_131, @tSlice_131⟩
theorem y_136 : ((type_of% @tElem_136) ∧ (type_of% @tSlice_136)) := ⟨@tElem_136, @tSlice_136⟩
theorem y_139 : ((((type_of% @Tryz.underlying139) ∧ (type_of% @arrTy0_139)) ∧ ((type_of% @arrTy_139) ∧ (type_of% @tAgg_139))) ∧ (((type_of% @tCS_139) ∧ (type_of% @tElem_139)) ∧ ((type_of% @tKnown_139) ∧ ((type_of% @tSize_139) ∧ (type_of% @tSlice_139))))) := ⟨⟨⟨@Tryz.underlying139, @arrTy0_139⟩, ⟨@arrTy_139, @tAgg_139⟩⟩, ⟨⟨@tCS_139, @tElem_139⟩, ⟨@tKnown_139, ⟨@tSize_139, @tSlice_139⟩⟩⟩⟩
theorem y_141 : ((((type_of% @Tryz.underlying141) ∧ (type_of% @tCS_141)) ∧ ((type_of% @tFld_141_0) ∧ ((type_of% @tFld_141_1) ∧ (type_of% @tOff_141_0)))) ∧ (((type_of% @tOff_141_1) ∧ (type_of% @tStruct_141_0)) ∧ ((type_of% @tStruct_141_1) ∧ ((type_of% @tZ_141) ∧ (type_of% @tZok_141))))) := ⟨⟨⟨@Tryz.underlying141, @tCS_141⟩, ⟨@tFld_141_0, ⟨@tFld_141_1, @tOff_141_0⟩⟩⟩, ⟨⟨@tOff_141_1, @tStruct_141_0⟩, ⟨@tStruct_141_1, ⟨@tZ_141, @tZok_141⟩⟩⟩⟩
theorem y_179 : (((((type_of% @tCS_179) ∧ (type_of% @tFld_179_0)) ∧ ((type_of% @tFld_179_1) ∧ (type_of% @tFld_179_2))) ∧ (((type_of% @tFld_179_3) ∧ (type_of% @tFld_179_4)) ∧ ((type_of% @tOff_179_0) ∧ ((type_of% @tOff_179_1) ∧ (type_of% @tOff_179_2))))) ∧ ((((type_of% @tOff_179_3) ∧ (type_of% @tOff_179_4)) ∧ ((type_of% @tPlain_179) ∧ ((type_of% @tStruct_179_0) ∧ (type_of% @tStruct_179_1)))) ∧ (((type_of% @tStruct_179_2) ∧ (type_of% @tStruct_179_3)) ∧ ((type_of% @tStruct_179_4) ∧ ((type_of% @tZ_179) ∧ (type_of% @tZok_179)))))) := ⟨⟨⟨⟨@tCS_179, @tFld_179_0⟩, ⟨@tFld_179_1, @tFld_179_2⟩⟩, ⟨⟨@tFld_179_3, @tFld_179_4⟩, ⟨@tOff_179_0, ⟨@tOff_179_1, @tOff_179_2⟩⟩⟩⟩, ⟨⟨⟨@tOff_179_3, @tOff_179_4⟩, ⟨@tPlain_179, ⟨@tStruct_179_0, @tStruct_179_1⟩⟩⟩, ⟨⟨@tStruct_179_2, @tStruct_179_3⟩, ⟨@tStruct_179_4, ⟨@tZ_179, @tZok_179⟩⟩⟩⟩⟩
theorem call_9 : Callable Tryz.prog 9 := callable_of Tryz.func9 (by kernel_rfl) (by kernel_rfl)
theorem call_10 : Callable Tryz.prog 10 := callable_of Tryz.func10 (by kernel_rfl) (by kernel_rfl)
theorem call_11 : Callable Tryz.prog 11 := callable_of Tryz.func11 (by kernel_rfl) (by kernel_rfl)
theorem call_13 : Callable Tryz.prog 13 := callable_of Tryz.func13 (by kernel_rfl) (by kernel_rfl)
theorem call_14 : Callable Tryz.prog 14 := callable_of Tryz.func14 (by kernel_rfl) (by kernel_rfl)
theorem call_15 : Callable Tryz.prog 15 := callable_of Tryz.func15 (by kernel_rfl) (by kernel_rfl)
theorem call_16 : Callable Tryz.prog 16 := callable_of Tryz.func16 (by kernel_rfl) (by kernel_rfl)
theorem call_19 : Callable Tryz.prog 19 := callable_of Tryz.func19 (by kernel_rfl) (by kernel_rfl)
theorem call_20 : Callable Tryz.prog 20 := callable_of Tryz.func20 (by kernel_rfl) (by kernel_rfl)
theorem call_21 : Callable Tryz.prog 21 := callable_of Tryz.func21 (by kernel_rfl) (by kernel_rfl)
theorem call_22 : Callable Tryz.prog 22 := callable_of Tryz.func22 (by kernel_rfl) (by kernel_rfl)
theorem call_23 : Callable Tryz.prog 23 := callable_of Tryz.func23 (by kernel_rfl) (by kernel_rfl)
theorem call_24 : Callable Tryz.prog 24 := callable_of Tryz.func24 (by kernel_rfl) (by kernel_rfl)
theorem call_25 : Callable Tryz.prog 25 := callable_of Tryz.func25 (by kernel_rfl) (by kernel_rfl)
theorem call_27 : Callable Tryz.prog 27 := callable_of Tryz.func27 (by kernel_rfl) (by kernel_rfl)
theorem call_28 : Callable Tryz.prog 28 := callable_of Tryz.func28 (by kernel_rfl) (by kernel_rfl)
theorem call_29 : Callable Tryz.prog 29 := callable_of Tryz.func29 (by kernel_rfl) (by kernel_rfl)
theorem call_30 : Callable Tryz.prog 30 := callable_of Tryz.func30 (by kernel_rfl) (by kernel_rfl)
theorem call_31 : Callable Tryz.prog 31 := callable_of Tryz.func31 (by kernel_rfl) (by kernel_rfl)
theorem call_32 : Callable Tryz.prog 32 := callable_of Tryz.func32 (by kernel_rfl) (by kernel_rfl)
theorem call_33 : Callable Tryz.prog 33 := callable_of Tryz.func33 (by kernel_rfl) (by kernel_rfl)
theorem call_34 : Callable Tryz.prog 34 := callable_of Tryz.func34 (by kernel_rfl) (by kernel_rfl)
theorem call_35 : Callable Tryz.prog 35 := callable_of Tryz.func35 (by kernel_rfl) (by kernel_rfl)
theorem call_36 : Callable Tryz.prog 36 := callable_of Tryz.func36 (by kernel_rfl) (by kernel_rfl)
theorem call_37 : Callable Tryz.prog 37 := callable_of Tryz.func37 (by kernel_rfl) (by kernel_rfl)
theorem call_38 : Callable Tryz.prog 38 := callable_of Tryz.func38 (by kernel_rfl) (by kernel_rfl)
theorem call_39 : Callable Tryz.prog 39 := callable_of Tryz.func39 (by kernel_rfl) (by kernel_rfl)
theorem call_40 : Callable Tryz.prog 40 := callable_of Tryz.func40 (by kernel_rfl) (by kernel_rfl)
theorem call_41 : Callable Tryz.prog 41 := callable_of Tryz.func41 (by kernel_rfl) (by kernel_rfl)
theorem call_42 : Callable Tryz.prog 42 := callable_of Tryz.func42 (by kernel_rfl) (by kernel_rfl)
theorem call_43 : Callable Tryz.prog 43 := callable_of Tryz.func43 (by kernel_rfl) (by kernel_rfl)
theorem call_45 : Callable Tryz.prog 45 := callable_of Tryz.func45 (by kernel_rfl) (by kernel_rfl)
theorem call_52 : Callable Tryz.prog 52 := callable_of Tryz.func52 (by kernel_rfl) (by kernel_rfl)
theorem call_53 : Callable Tryz.prog 53 := callable_of Tryz.func53 (by kernel_rfl) (by kernel_rfl)
theorem call_54 : Callable Tryz.prog 54 := callable_of Tryz.func54 (by kernel_rfl) (by kernel_rfl)
theorem call_55 : Callable Tryz.prog 55 := callable_of Tryz.func55 (by kernel_rfl) (by kernel_rfl)
theorem call_56 : Callable Tryz.prog 56 := callable_of Tryz.func56 (by kernel_rfl) (by kernel_rfl)
theorem call_57 : Callable Tryz.prog 57 := callable_of Tryz.func57 (by kernel_rfl) (by kernel_rfl)
theorem call_58 : Callable Tryz.prog 58 := callable_of Tryz.func58 (by kernel_rfl) (by kernel_rfl)
theorem call_59 : Callable Tryz.prog 59 := callable_of Tryz.func59 (by kernel_rfl) (by kernel_rfl)
theorem call_60 : Callable Tryz.prog 60 := callable_of Tryz.func60 (by kernel_rfl) (by kernel_rfl)
theorem call_61 : Callable Tryz.prog 61 := callable_of Tryz.func61 (by kernel_rfl) (by kernel_rfl)
theorem call_62 : Callable Tryz.prog 62 := callable_of Tryz.func62 (by kernel_rfl) (by kernel_rfl)
theorem call_63 : Callable Tryz.prog 63 := callable_of Tryz.func63 (by kernel_rfl) (by kernel_rfl)
theorem call_64 : Callable Tryz.prog 64 := callable_of Tryz.func64 (by kernel_rfl) (by kernel_rfl)
theorem call_65 : Callable Tryz.prog 65 := callable_of Tryz.func65 (by kernel_rfl) (by kernel_rfl)
theorem call_66 : Callable Tryz.prog 66 := callable_of Tryz.func66 (by kernel_rfl) (by kernel_rfl)
theorem call_67 : Callable Tryz.prog 67 := callable_of Tryz.func67 (by kernel_rfl) (by kernel_rfl)
theorem call_68 : Callable Tryz.prog 68 := callable_of Tryz.func68 (by kernel_rfl) (by kernel_rfl)
theorem call_74 : Callable Tryz.prog 74 := callable_of Tryz.func74 (by kernel_rfl) (by kernel_rfl)
theorem call_75 : Callable Tryz.prog 75 := callable_of Tryz.func75 (by kernel_rfl) (by kernel_rfl)
theorem call_76 : Callable Tryz.prog 76 := callable_of Tryz.func76 (by kernel_rfl) (by kernel_rfl)
theorem call_77 : Callable Tryz.prog 77 := callable_of Tryz.func77 (by kernel_rfl) (by kernel_rfl)
theorem call_78 : Callable Tryz.prog 78 := callable_of Tryz.func78 (by kernel_rfl) (by kernel_rfl)
theorem call_79 : Callable Tryz.prog 79 := callable_of Tryz.func79 (by kernel_rfl) (by kernel_rfl)
theorem call_80 : Callable Tryz.prog 80 := callable_of Tryz.func80 (by kernel_rfl) (by kernel_rfl)
theorem call_81 : Callable Tryz.prog 81 := callable_of Tryz.func81 (by kernel_rfl) (by kernel_rfl)
theorem call_82 : Callable Tryz.prog 82 := callable_of Tryz.func82 (by kernel_rfl) (by kernel_rfl)
theorem call_84 : Callable Tryz.prog 84 := callable_of Tryz.func84 (by kernel_rfl) (by kernel_rfl)
theorem call_87 : Callable Tryz.prog 87 := callable_of Tryz.func87 (by kernel_rfl) (by kernel_rfl)
theorem call_88 : Callable Tryz.prog 88 := callable_of Tryz.func88 (by kernel_rfl) (by kernel_rfl)
theorem call_89 : Callable Tryz.prog 89 := callable_of Tryz.func89 (by kernel_rfl) (by kernel_rfl)
theorem call_90 : Callable Tryz.prog 90 := callable_of Tryz.func90 (by kernel_rfl) (by kernel_rfl)
theorem call_106 : Callable Tryz.prog 106 := callable_of Tryz.func106 (by kernel_rfl) (by kernel_rfl)
theorem call_107 : Callable Tryz.prog 107 := callable_of Tryz.func107 (by kernel_rfl) (by kernel_rfl)
theorem call_108 : Callable Tryz.prog 108 := callable_of Tryz.func108 (by kernel_rfl) (by kernel_rfl)
theorem call_120 : Callable Tryz.prog 120 := callable_of Tryz.func120 (by kernel_rfl) (by kernel_rfl)
theorem call_121 : Callable Tryz.prog 121 := callable_of Tryz.func121 (by kernel_rfl) (by kernel_rfl)
theorem call_122 : Callable Tryz.prog 122 := callable_of Tryz.func122 (by kernel_rfl) (by kernel_rfl)
theorem call_123 : Callable Tryz.prog 123 := callable_of Tryz.func123 (by kernel_rfl) (by kernel_rfl)
theorem call_124 : Callable Tryz.prog 124 := callable_of Tryz.func124 (by kernel_rfl) (by kernel_rfl)
theorem call_128 : Callable Tryz.prog 128 := callable_of Tryz.func128 (by kernel_rfl) (by kernel_rfl)
theorem call_129 : Callable Tryz.prog 129 := callable_of Tryz.func129 (by kernel_rfl) (by kernel_rfl)
theorem call_130 : Callable Tryz.prog 130 := callable_of Tryz.func130 (by kernel_rfl) (by kernel_rfl)
theorem call_131 : Callable Tryz.prog 131 := callable_of Tryz.func131 (by kernel_rfl) (by kernel_rfl)
theorem call_132 : Callable Tryz.prog 132 := callable_of Tryz.func132 (by kernel_rfl) (by kernel_rfl)
theorem call_133 : Callable Tryz.prog 133 := callable_of Tryz.func133 (by kernel_rfl) (by kernel_rfl)
theorem call_134 : Callable Tryz.prog 134 := callable_of Tryz.func134 (by kernel_rfl) (by kernel_rfl)
theorem call_135 : Callable Tryz.prog 135 := callable_of Tryz.func135 (by kernel_rfl) (by kernel_rfl)
theorem call_136 : Callable Tryz.prog 136 := callable_of Tryz.func136 (by kernel_rfl) (by kernel_rfl)
theorem call_137 : Callable Tryz.prog 137 := callable_of Tryz.func137 (by kernel_rfl) (by kernel_rfl)
theorem call_138 : Callable Tryz.prog 138 := callable_of Tryz.func138 (by kernel_rfl) (by kernel_rfl)
theorem call_139 : Callable Tryz.prog 139 := callable_of Tryz.func139 (by kernel_rfl) (by kernel_rfl)
theorem u8s_map (l : List UInt8) : u8s l = List.map dU l := rfl
theorem mixed : Tryz.prog.follows .mixedOrders = true := Tryz.checked.mixed
theorem upd_at {α : Type} (σ : Nat → α) (d : Nat) (x : α) (i : Nat) : upd σ d x i = if i = d then x else σ i := rfl
theorem take_drop_all {α : Type} (l : List α) (i : Nat) : (l.drop i).take (l.length - i) = l.drop i := List.take_of_length_le (by simp)
theorem drop_map0 {α β : Type} (f : α → β) (l : List α) (i : Nat) : (l.map f).drop i = (l.drop i).map f := List.map_drop.symm
theorem take_map0 {α β : Type} (f : α → β) (l : List α) (i : Nat) : (l.map f).take i = (l.take i).map f := List.map_take.symm
theorem inrO_fin {S R : Type} {b : S → Option (S ⊕ R)} {n : Nat} {x : Option R} {o : S ⊕ R} {out : R} (h : inrO x = some o) (hF : Fin' b n o out) : x = some out := by
 obtain ⟨r, h1, rfl⟩ := inrO_some h
 cases hF
 exact h1
theorem inl_fin {S R : Type} {b : S → Option (S ⊕ R)} {n : Nat} {s : S} {o : S ⊕ R} {out : R} (h : (some (.inl s) : Option (S ⊕ R)) = some o) (hF : Fin' b n o out) : Fin' b n (.inl s) out := by
 obtain rfl := Option.some.inj h
 exact hF
end Go.Proofs.YtjgimofnepechaaGreatDoor
