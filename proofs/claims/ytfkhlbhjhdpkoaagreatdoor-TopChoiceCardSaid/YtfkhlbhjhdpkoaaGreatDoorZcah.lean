/- Facts on types, and which functions can be called. -/
import Derived.Test.YtfkhlbhjhdpkoaaGreatDoorZcaf
import Derived.Test.YtfkhlbhjhdpkoaaGreatDoorRows
set_option linter.unusedVariables false
set_option linter.unusedSimpArgs false
namespace Go.Proofs.YtfkhlbhjhdpkoaaGreatDoor
open Go.RowKit
theorem tKnown_3 : tKnown Tryz.prog 3 = true := by kernel_rfl
theorem tSize_3 : tSize Tryz.prog 3 = 1 := by kernel_rfl
theorem tAgg_3 : tAgg Tryz.prog 3 = false := by kernel_rfl
theorem tZok_3 : tZok Tryz.prog 3 = true := by kernel_rfl
theorem tZ_3 : tZ Tryz.prog 3 = [.int .i64 0] := by kernel_rfl
theorem tCS_3 : tCS Tryz.prog 3 = [0] := by kernel_rfl
theorem tBytes_3 : tBytes Tryz.prog 3 = 8 := by kernel_rfl
theorem tKnown_4 : tKnown Tryz.prog 4 = true := by kernel_rfl
theorem tSize_4 : tSize Tryz.prog 4 = 1 := by kernel_rfl
theorem tAgg_4 : tAgg Tryz.prog 4 = false := by kernel_rfl
theorem tZok_4 : tZok Tryz.prog 4 = true := by kernel_rfl
theorem tZ_4 : tZ Tryz.prog 4 = [.bool false] := by kernel_rfl
theorem tCS_4 : tCS Tryz.prog 4 = [0] := by kernel_rfl
theorem tBytes_4 : tBytes Tryz.prog 4 = 1 := by kernel_rfl
theorem tKnown_5 : tKnown Tryz.prog 5 = true := by kernel_rfl
theorem tSize_5 : tSize Tryz.prog 5 = 1 := by kernel_rfl
theorem tAgg_5 : tAgg Tryz.prog 5 = false := by kernel_rfl
theorem tZok_5 : tZok Tryz.prog 5 = true := by kernel_rfl
theorem tZ_5 : tZ Tryz.prog 5 = [.int .u8 0] := by kernel_rfl
theorem tCS_5 : tCS Tryz.prog 5 = [0] := by kernel_rfl
theorem tBytes_5 : tBytes Tryz.prog 5 = 1 := by kernel_rfl
theorem tZ1_5 : tZ1 Tryz.prog 5 = true := by kernel_rfl
theorem tKnown_9 : tKnown Tryz.prog 9 = true := by kernel_rfl
theorem tSize_9 : tSize Tryz.prog 9 = 1 := by kernel_rfl
theorem tAgg_9 : tAgg Tryz.prog 9 = false := by kernel_rfl
theorem tZok_9 : tZok Tryz.prog 9 = true := by kernel_rfl
theorem tZ_9 : tZ Tryz.prog 9 = [str []] := by kernel_rfl
theorem tCS_9 : tCS Tryz.prog 9 = [0] := by kernel_rfl
theorem tBytes_9 : tBytes Tryz.prog 9 = 16 := by kernel_rfl
theorem tNoIface_9 : tNoIface Tryz.prog 9 = true := by kernel_rfl
theorem tAnyI_20 : tAnyI Tryz.prog 20 = true := by kernel_rfl
theorem tNilK_20 : tNilK Tryz.prog 20 = 4 := by kernel_rfl
theorem tKnown_24 : tKnown Tryz.prog 24 = true := by kernel_rfl
theorem tSize_24 : tSize Tryz.prog 24 = 1 := by kernel_rfl
theorem tAgg_24 : tAgg Tryz.prog 24 = false := by kernel_rfl
theorem tZok_24 : tZok Tryz.prog 24 = true := by kernel_rfl
theorem tZ_24 : tZ Tryz.prog 24 = [.slice none 0 0] := by kernel_rfl
theorem tCS_24 : tCS Tryz.prog 24 = [11] := by kernel_rfl
theorem tBytes_24 : tBytes Tryz.prog 24 = 24 := by kernel_rfl
theorem tNilK_24 : tNilK Tryz.prog 24 = 1 := by kernel_rfl
theorem tSlice_24 : tSlice Tryz.prog 24 = true := by kernel_rfl
theorem tElem_24 : tElem Tryz.prog 24 = 44 := by kernel_rfl
theorem arrTy0_24 : arrTy0 24 = true := by kernel_rfl
theorem arrTy_24 : arrTy 24 = true := by kernel_rfl
theorem tKnown_25 : tKnown Tryz.prog 25 = true := by kernel_rfl
theorem tSize_25 : tSize Tryz.prog 25 = 1 := by kernel_rfl
theorem tAgg_25 : tAgg Tryz.prog 25 = false := by kernel_rfl
theorem tCS_25 : tCS Tryz.prog 25 = [1] := by kernel_rfl
theorem tSlice_25 : tSlice Tryz.prog 25 = true := by kernel_rfl
theorem tElem_25 : tElem Tryz.prog 25 = 3 := by kernel_rfl
theorem arrTy0_25 : arrTy0 25 = false := by kernel_rfl
theorem arrTy_25 : arrTy 25 = true := by kernel_rfl
theorem tKnown_27 : tKnown Tryz.prog 27 = true := by kernel_rfl
theorem tSize_27 : tSize Tryz.prog 27 = 2 := by kernel_rfl
theorem tAgg_27 : tAgg Tryz.prog 27 = true := by kernel_rfl
theorem tZok_27 : tZok Tryz.prog 27 = true := by kernel_rfl
theorem tZ_27 : tZ Tryz.prog 27 = [.slice none 0 0, .slice none 0 0] := by kernel_rfl
theorem tCS_27 : tCS Tryz.prog 27 = [11, 1] := by kernel_rfl
theorem tPlain_27 : tPlain Tryz.prog 27 = true := by kernel_rfl
theorem tStruct_27_0 : tStruct Tryz.prog 27 0 = true := by kernel_rfl
theorem tOff_27_0 : tOff Tryz.prog 27 0 = 0 := by kernel_rfl
theorem tFld_27_0 : tFld Tryz.prog 27 0 = 24 := by kernel_rfl
theorem tStruct_27_1 : tStruct Tryz.prog 27 1 = true := by kernel_rfl
theorem tOff_27_1 : tOff Tryz.prog 27 1 = 1 := by kernel_rfl
theorem tFld_27_1 : tFld Tryz.prog 27 1 = 25 := by kernel_rfl
theorem tKnown_28 : tKnown Tryz.prog 28 = true := by kernel_rfl
theorem tSize_28 : tSize Tryz.prog 28 = 1 := by kernel_rfl
theorem tAgg_28 : tAgg Tryz.prog 28 = false := by kernel_rfl
theorem tZok_28 : tZok Tryz.prog 28 = true := by kernel_rfl
theorem tZ_28 : tZ Tryz.prog 28 = [.slice none 0 0] := by kernel_rfl
theorem tCS_28 : tCS Tryz.prog 28 = [5] := by kernel_rfl
theorem tNilK_28 : tNilK Tryz.prog 28 = 1 := by kernel_rfl
theorem tSlice_28 : tSlice Tryz.prog 28 = true := by kernel_rfl
theorem tElem_28 : tElem Tryz.prog 28 = 63 := by kernel_rfl
theorem arrTy0_28 : arrTy0 28 = true := by kernel_rfl
theorem arrTy_28 : arrTy 28 = true := by kernel_rfl
theorem tKnown_29 : tKnown Tryz.prog 29 = true := by kernel_rfl
theorem tSize_29 : tSize Tryz.prog 29 = 1 := by kernel_rfl
theorem tAgg_29 : tAgg Tryz.prog 29 = false := by kernel_rfl
theorem tCS_29 : tCS Tryz.prog 29 = [0] := by kernel_rfl
theorem tKnown_31 : tKnown Tryz.prog 31 = true := by kernel_rfl
theorem tSize_31 : tSize Tryz.prog 31 = 3 := by kernel_rfl
theorem tAgg_31 : tAgg Tryz.prog 31 = true := by kernel_rfl
theorem tZok_31 : tZok Tryz.prog 31 = true := by kernel_rfl
theorem tZ_31 : tZ Tryz.prog 31 = [.int .i64 0, .int .i64 0, .int .i64 0] := by kernel_rfl
theorem tCS_31 : tCS Tryz.prog 31 = [0, 0, 0] := by kernel_rfl
theorem tPlain_31 : tPlain Tryz.prog 31 = true := by kernel_rfl
theorem tStruct_31_0 : tStruct Tryz.prog 31 0 = true := by kernel_rfl
theorem tOff_31_0 : tOff Tryz.prog 31 0 = 0 := by kernel_rfl
theorem tFld_31_0 : tFld Tryz.prog 31 0 = 29 := by kernel_rfl
theorem tStruct_31_1 : tStruct Tryz.prog 31 1 = true := by kernel_rfl
theorem tOff_31_1 : tOff Tryz.prog 31 1 = 1 := by kernel_rfl
theorem tFld_31_1 : tFld Tryz.prog 31 1 = 3 := by kernel_rfl
theorem tStruct_31_2 : tStruct Tryz.prog 31 2 = true := by kernel_rfl
theorem tOff_31_2 : tOff Tryz.prog 31 2 = 2 := by kernel_rfl
theorem tFld_31_2 : tFld Tryz.prog 31 2 = 3 := by kernel_rfl
theorem tKnown_35 : tKnown Tryz.prog 35 = true := by kernel_rfl
theorem tSize_35 : tSize Tryz.prog 35 = 2 := by kernel_rfl
theorem tAgg_35 : tAgg Tryz.prog 35 = true := by kernel_rfl
theorem tZok_35 : tZok Tryz.prog 35 = true := by kernel_rfl
theorem tZ_35 : tZ Tryz.prog 35 = [str [], str []] := by kernel_rfl
theorem tCS_35 : tCS Tryz.prog 35 = [0, 0] := by kernel_rfl
theorem tBytes_35 : tBytes Tryz.prog 35 = 32 := by kernel_rfl
theorem tPlain_35 : tPlain Tryz.prog 35 = true := by kernel_rfl
theorem tStruct_35_0 : tStruct Tryz.prog 35 0 = true := by kernel_rfl
theorem tOff_35_0 : tOff Tryz.prog 35 0 = 0 := by kernel_rfl
theorem tFld_35_0 : tFld Tryz.prog 35 0 = 9 := by kernel_rfl
theorem tStruct_35_1 : tStruct Tryz.prog 35 1 = true := by kernel_rfl
theorem tOff_35_1 : tOff Tryz.prog 35 1 = 1 := by kernel_rfl
theorem tFld_35_1 : tFld Tryz.prog 35 1 = 9 := by kernel_rfl
theorem tKnown_37 : tKnown Tryz.prog 37 = true := by kernel_rfl
theorem tSize_37 : tSize Tryz.prog 37 = 1 := by kernel_rfl
theorem tAgg_37 : tAgg Tryz.prog 37 = false := by kernel_rfl
theorem tCS_37 : tCS Tryz.prog 37 = [2] := by kernel_rfl
theorem tSlice_37 : tSlice Tryz.prog 37 = true := by kernel_rfl
theorem tElem_37 : tElem Tryz.prog 37 = 35 := by kernel_rfl
theorem arrTy0_37 : arrTy0 37 = false := by kernel_rfl
theorem arrTy_37 : arrTy 37 = false := by kernel_rfl
theorem tKnown_39 : tKnown Tryz.prog 39 = true := by kernel_rfl
theorem tSize_39 : tSize Tryz.prog 39 = 3 := by kernel_rfl
theorem tAgg_39 : tAgg Tryz.prog 39 = true := by kernel_rfl
theorem tZok_39 : tZok Tryz.prog 39 = true := by kernel_rfl
theorem tZ_39 : tZ Tryz.prog 39 = [.int .i64 0, .int .i64 0, .int .i64 0] := by kernel_rfl
theorem tCS_39 : tCS Tryz.prog 39 = [0, 0, 0] := by kernel_rfl
theorem tPlain_39 : tPlain Tryz.prog 39 = true := by kernel_rfl
theorem tStruct_39_0 : tStruct Tryz.prog 39 0 = true := by kernel_rfl
theorem tOff_39_0 : tOff Tryz.prog 39 0 = 0 := by kernel_rfl
theorem tFld_39_0 : tFld Tryz.prog 39 0 = 3 := by kernel_rfl
theorem tStruct_39_1 : tStruct Tryz.prog 39 1 = true := by kernel_rfl
theorem tOff_39_1 : tOff Tryz.prog 39 1 = 1 := by kernel_rfl
theorem tFld_39_1 : tFld Tryz.prog 39 1 = 3 := by kernel_rfl
theorem tStruct_39_2 : tStruct Tryz.prog 39 2 = true := by kernel_rfl
theorem tOff_39_2 : tOff Tryz.prog 39 2 = 2 := by kernel_rfl
theorem tFld_39_2 : tFld Tryz.prog 39 2 = 3 := by kernel_rfl
theorem tKnown_41 : tKnown Tryz.prog 41 = true := by kernel_rfl
theorem tSize_41 : tSize Tryz.prog 41 = 1 := by kernel_rfl
theorem tAgg_41 : tAgg Tryz.prog 41 = false := by kernel_rfl
theorem tZok_41 : tZok Tryz.prog 41 = true := by kernel_rfl
theorem tZ_41 : tZ Tryz.prog 41 = [.slice none 0 0] := by kernel_rfl
theorem tCS_41 : tCS Tryz.prog 41 = [1] := by kernel_rfl
theorem tBytes_41 : tBytes Tryz.prog 41 = 24 := by kernel_rfl
theorem tNilK_41 : tNilK Tryz.prog 41 = 1 := by kernel_rfl
theorem tSlice_41 : tSlice Tryz.prog 41 = true := by kernel_rfl
theorem tElem_41 : tElem Tryz.prog 41 = 9 := by kernel_rfl
theorem arrTy0_41 : arrTy0 41 = false := by kernel_rfl
theorem arrTy_41 : arrTy 41 = true := by kernel_rfl
theorem tKnown_42 : tKnown Tryz.prog 42 = true := by kernel_rfl
theorem tSize_42 : tSize Tryz.prog 42 = 1 := by kernel_rfl
theorem tAgg_42 : tAgg Tryz.prog 42 = false := by kernel_rfl
theorem tZok_42 : tZok Tryz.prog 42 = true := by kernel_rfl
theorem tZ_42 : tZ Tryz.prog 42 = [.slice none 0 0] := by kernel_rfl
theorem tCS_42 : tCS Tryz.prog 42 = [3] := by kernel_rfl
theorem tBytes_42 : tBytes Tryz.prog 42 = 24 := by kernel_rfl
theorem tNilK_42 : tNilK Tryz.prog 42 = 1 := by kernel_rfl
theorem tSlice_42 : tSlice Tryz.prog 42 = true := by kernel_rfl
theorem tElem_42 : tElem Tryz.prog 42 = 198 := by kernel_rfl
theorem arrTy0_42 : arrTy0 42 = false := by kernel_rfl
theorem arrTy_42 : arrTy 42 = false := by kernel_rfl
theorem tKnown_44 : tKnown Tryz.prog 44 = true := by kernel_rfl
theorem tSize_44 : tSize Tryz.prog 44 = 11 := by kernel_rfl
theorem tAgg_44 : tAgg Tryz.prog 44 = true := by kernel_rfl
theorem tZok_44 : tZok Tryz.prog 44 = true := by kernel_rfl
theorem tZ_44 : tZ Tryz.prog 44 = [.int .i64 0, str [], .bool false, .bool false, .int .i64 0, .int .i64 0, .int .i64 0, .int .i64 0, .slice none 0 0, .slice none 0 0, .int .i64 0] := by kernel_rfl
theorem tCS_44 : tCS Tryz.prog 44 = [0, 0, 0, 0, 0, 0, 0, 0, 1, 3, 0] := by kernel_rfl
theorem tBytes_44 : tBytes Tryz.prog 44 = 120 := by kernel_rfl
theorem tPlain_44 : tPlain Tryz.prog 44 = true := by kernel_rfl
theorem tStruct_44_0 : tStruct Tryz.prog 44 0 = true := by kernel_rfl
theorem tOff_44_0 : tOff Tryz.prog 44 0 = 0 := by kernel_rfl
theorem tFld_44_0 : tFld Tryz.prog 44 0 = 3 := by kernel_rfl
theorem tStruct_44_1 : tStruct Tryz.prog 44 1 = true := by kernel_rfl
theorem tOff_44_1 : tOff Tryz.prog 44 1 = 1 := by kernel_rfl
theorem tFld_44_1 : tFld Tryz.prog 44 1 = 9 := by kernel_rfl
theorem tStruct_44_2 : tStruct Tryz.prog 44 2 = true := by kernel_rfl
theorem tOff_44_2 : tOff Tryz.prog 44 2 = 2 := by kernel_rfl
theorem tFld_44_2 : tFld Tryz.prog 44 2 = 4 := by kernel_rfl
theorem tStruct_44_3 : tStruct Tryz.prog 44 3 = true := by kernel_rfl
theorem tOff_44_3 : tOff Tryz.prog 44 3 = 3 := by kernel_rfl
theorem tFld_44_3 : tFld Tryz.prog 44 3 = 4 := by kernel_rfl
theorem tStruct_44_4 : tStruct Tryz.prog 44 4 = true := by kernel_rfl
theorem tOff_44_4 : tOff Tryz.prog 44 4 = 4 := by kernel_rfl
theorem tFld_44_4 : tFld Tryz.prog 44 4 = 3 := by kernel_rfl
theorem tStruct_44_5 : tStruct Tryz.prog 44 5 = true := by kernel_rfl
theorem tOff_44_5 : tOff Tryz.prog 44 5 = 5 := by kernel_rfl
theorem tFld_44_5 : tFld Tryz.prog 44 5 = 3 := by kernel_rfl
theorem tStruct_44_6 : tStruct Tryz.prog 44 6 = true := by kernel_rfl
theorem tOff_44_6 : tOff Tryz.prog 44 6 = 6 := by kernel_rfl
theorem tFld_44_6 : tFld Tryz.prog 44 6 = 3 := by kernel_rfl
theorem tStruct_44_7 : tStruct Tryz.prog 44 7 = true := by kernel_rfl
theorem tOff_44_7 : tOff Tryz.prog 44 7 = 7 := by kernel_rfl
theorem tFld_44_7 : tFld Tryz.prog 44 7 = 3 := by kernel_rfl
theorem tStruct_44_8 : tStruct Tryz.prog 44 8 = true := by kernel_rfl
theorem tOff_44_8 : tOff Tryz.prog 44 8 = 8 := by kernel_rfl
theorem tFld_44_8 : tFld Tryz.prog 44 8 = 41 := by kernel_rfl
theorem tStruct_44_9 : tStruct Tryz.prog 44 9 = true := by kernel_rfl
theorem tOff_44_9 : tOff Tryz.prog 44 9 = 9 := by kernel_rfl
theorem tFld_44_9 : tFld Tryz.prog 44 9 = 42 := by kernel_rfl
theorem tStruct_44_10 : tStruct Tryz.prog 44 10 = true := by kernel_rfl
theorem tOff_44_10 : tOff Tryz.prog 44 10 = 10 := by kernel_rfl
theorem tFld_44_10 : tFld Tryz.prog 44 10 = 3 := by kernel_rfl
theorem tKnown_55 : tKnown Tryz.prog 55 = true := by kernel_rfl
theorem tSize_55 : tSize Tryz.prog 55 = 1 := by kernel_rfl
theorem tAgg_55 : tAgg Tryz.prog 55 = false := by kernel_rfl
theorem tCS_55 : tCS Tryz.prog 55 = [1] := by kernel_rfl
theorem tSlice_55 : tSlice Tryz.prog 55 = true := by kernel_rfl
theorem tElem_55 : tElem Tryz.prog 55 = 5 := by kernel_rfl
theorem arrTy0_55 : arrTy0 55 = false := by kernel_rfl
theorem arrTy_55 : arrTy 55 = true := by kernel_rfl
theorem tSlice_57 : tSlice Tryz.prog 57 = true := by kernel_rfl
theorem tElem_57 : tElem Tryz.prog 57 = 4 := by kernel_rfl
theorem tKnown_63 : tKnown Tryz.prog 63 = true := by kernel_rfl
theorem tSize_63 : tSize Tryz.prog 63 = 5 := by kernel_rfl
theorem tAgg_63 : tAgg Tryz.prog 63 = true := by kernel_rfl
theorem tZok_63 : tZok Tryz.prog 63 = true := by kernel_rfl
theorem tZ_63 : tZ Tryz.prog 63 = [str [], .bool false, .slice none 0 0, .bool false, .slice none 0 0] := by kernel_rfl
theorem tCS_63 : tCS Tryz.prog 63 = [0, 0, 1, 0, 11] := by kernel_rfl
theorem tBytes_63 : tBytes Tryz.prog 63 = 80 := by kernel_rfl
theorem tPlain_63 : tPlain Tryz.prog 63 = true := by kernel_rfl
theorem tStruct_63_0 : tStruct Tryz.prog 63 0 = true := by kernel_rfl
theorem tOff_63_0 : tOff Tryz.prog 63 0 = 0 := by kernel_rfl
theorem tFld_63_0 : tFld Tryz.prog 63 0 = 9 := by kernel_rfl
theorem tStruct_63_1 : tStruct Tryz.prog 63 1 = true := by kernel_rfl
theorem tOff_63_1 : tOff Tryz.prog 63 1 = 1 := by kernel_rfl
theorem tFld_63_1 : tFld Tryz.prog 63 1 = 4 := by kernel_rfl
theorem tStruct_63_2 : tStruct Tryz.prog 63 2 = true := by kernel_rfl
theorem tOff_63_2 : tOff Tryz.prog 63 2 = 2 := by kernel_rfl
theorem tFld_63_2 : tFld Tryz.prog 63 2 = 41 := by kernel_rfl
theorem tStruct_63_3 : tStruct Tryz.prog 63 3 = true := by kernel_rfl
theorem tOff_63_3 : tOff Tryz.prog 63 3 = 3 := by kernel_rfl
theorem tFld_63_3 : tFld Tryz.prog 63 3 = 4 := by kernel_rfl
theorem tStruct_63_4 : tStruct Tryz.prog 63 4 = true := by kernel_rfl
theorem tOff_63_4 : tOff Tryz.prog 63 4 = 4 := by kernel_rfl
theorem tFld_63_4 : tFld Tryz.prog 63 4 = 24 := by kernel_rfl
theorem tZok_65 : tZok Tryz.prog 65 = true := by kernel_rfl
theorem tZ_65 : tZ Tryz.prog 65 = [.slice none 0 0, .int .i64 0, .int .i64 0, .int .i64 0, .slice none 0 0, .slice none 0 0, .slice none 0 0, .slice none 0 0, .int .i64 0] := by kernel_rfl
theorem tCS_65 : tCS Tryz.prog 65 = [2, 0, 0, 0, 5, 1, 11, 1, 0] := by kernel_rfl
theorem tPlain_65 : tPlain Tryz.prog 65 = true := by kernel_rfl
theorem tStruct_65_0 : tStruct Tryz.prog 65 0 = true := by kernel_rfl
theorem tOff_65_0 : tOff Tryz.prog 65 0 = 0 := by kernel_rfl
theorem tFld_65_0 : tFld Tryz.prog 65 0 = 37 := by kernel_rfl
theorem tStruct_65_1 : tStruct Tryz.prog 65 1 = true := by kernel_rfl
theorem tOff_65_1 : tOff Tryz.prog 65 1 = 1 := by kernel_rfl
theorem tFld_65_1 : tFld Tryz.prog 65 1 = 39 := by kernel_rfl
theorem tStruct_65_2 : tStruct Tryz.prog 65 2 = true := by kernel_rfl
theorem tOff_65_2 : tOff Tryz.prog 65 2 = 4 := by kernel_rfl
theorem tFld_65_2 : tFld Tryz.prog 65 2 = 28 := by kernel_rfl
theorem tStruct_65_3 : tStruct Tryz.prog 65 3 = true := by kernel_rfl
theorem tOff_65_3 : tOff Tryz.prog 65 3 = 5 := by kernel_rfl
theorem tFld_65_3 : tFld Tryz.prog 65 3 = 25 := by kernel_rfl
theorem tStruct_65_4 : tStruct Tryz.prog 65 4 = true := by kernel_rfl
theorem tOff_65_4 : tOff Tryz.prog 65 4 = 6 := by kernel_rfl
theorem tFld_65_4 : tFld Tryz.prog 65 4 = 27 := by kernel_rfl
theorem tStruct_65_5 : tStruct Tryz.prog 65 5 = true := by kernel_rfl
theorem tOff_65_5 : tOff Tryz.prog 65 5 = 8 := by kernel_rfl
theorem tFld_65_5 : tFld Tryz.prog 65 5 = 3 := by kernel_rfl
theorem tKnown_70 : tKnown Tryz.prog 70 = true := by kernel_rfl
theorem tSize_70 : tSize Tryz.prog 70 = 2 := by kernel_rfl
theorem tAgg_70 : tAgg Tryz.prog 70 = true := by kernel_rfl
theorem tZok_70 : tZok Tryz.prog 70 = true := by kernel_rfl
theorem tZ_70 : tZ Tryz.prog 70 = [str [], .slice none 0 0] := by kernel_rfl
theorem tCS_70 : tCS Tryz.prog 70 = [0, 1] := by kernel_rfl
theorem tPlain_70 : tPlain Tryz.prog 70 = true := by kernel_rfl
theorem tStruct_70_0 : tStruct Tryz.prog 70 0 = true := by kernel_rfl
theorem tOff_70_0 : tOff Tryz.prog 70 0 = 0 := by kernel_rfl
theorem tFld_70_0 : tFld Tryz.prog 70 0 = 9 := by kernel_rfl
theorem tStruct_70_1 : tStruct Tryz.prog 70 1 = true := by kernel_rfl
theorem tOff_70_1 : tOff Tryz.prog 70 1 = 1 := by kernel_rfl
theorem tFld_70_1 : tFld Tryz.prog 70 1 = 25 := by kernel_rfl
theorem tKnown_78 : tKnown Tryz.prog 78 = true := by kernel_rfl
theorem tSize_78 : tSize Tryz.prog 78 = 3 := by kernel_rfl
theorem tAgg_78 : tAgg Tryz.prog 78 = true := by kernel_rfl
theorem tZok_78 : tZok Tryz.prog 78 = true := by kernel_rfl
theorem tZ_78 : tZ Tryz.prog 78 = [.int .i64 0, .int .i64 0, .int .i64 0] := by kernel_rfl
theorem tCS_78 : tCS Tryz.prog 78 = [0, 0, 0] := by kernel_rfl
theorem tNoIface_78 : tNoIface Tryz.prog 78 = true := by kernel_rfl
theorem tPlain_78 : tPlain Tryz.prog 78 = true := by kernel_rfl
theorem tStruct_78_0 : tStruct Tryz.prog 78 0 = true := by kernel_rfl
theorem tOff_78_0 : tOff Tryz.prog 78 0 = 0 := by kernel_rfl
theorem tFld_78_0 : tFld Tryz.prog 78 0 = 31 := by kernel_rfl
theorem tSlice_80 : tSlice Tryz.prog 80 = true := by kernel_rfl
theorem tElem_80 : tElem Tryz.prog 80 = 90 := by kernel_rfl
theorem arrTy0_80 : arrTy0 80 = true := by kernel_rfl
theorem arrTy_80 : arrTy 80 = true := by kernel_rfl
theorem tSlice_81 : tSlice Tryz.prog 81 = true := by kernel_rfl
theorem tElem_81 : tElem Tryz.prog 81 = 24 := by kernel_rfl
theorem arrTy0_81 : arrTy0 81 = false := by kernel_rfl
theorem arrTy_81 : arrTy 81 = true := by kernel_rfl
theorem tKnown_90 : tKnown Tryz.prog 90 = true := by kernel_rfl
theorem tSize_90 : tSize Tryz.prog 90 = 14 := by kernel_rfl
theorem tAgg_90 : tAgg Tryz.prog 90 = true := by kernel_rfl
theorem tZok_90 : tZok Tryz.prog 90 = true := by kernel_rfl
theorem tZ_90 : tZ Tryz.prog 90 = [.bool false, .bool false, .bool false, .int .i64 0, str [], .bool false, .bool false, .int .i64 0, .int .i64 0, .int .i64 0, .int .i64 0, .slice none 0 0, .slice none 0 0, .int .i64 0] := by kernel_rfl
theorem tCS_90 : tCS Tryz.prog 90 = [0, 0, 0, 0, 0, 0, 0, 0, 0, 0, 0, 1, 3, 0] := by kernel_rfl
theorem tBytes_90 : tBytes Tryz.prog 90 = 128 := by kernel_rfl
theorem tPlain_90 : tPlain Tryz.prog 90 = true := by kernel_rfl
theorem tStruct_90_0 : tStruct Tryz.prog 90 0 = true := by kernel_rfl
theorem tOff_90_0 : tOff Tryz.prog 90 0 = 0 := by kernel_rfl
theorem tFld_90_0 : tFld Tryz.prog 90 0 = 4 := by kernel_rfl
theorem tStruct_90_1 : tStruct Tryz.prog 90 1 = true := by kernel_rfl
theorem tOff_90_1 : tOff Tryz.prog 90 1 = 1 := by kernel_rfl
theorem tFld_90_1 : tFld Tryz.prog 90 1 = 4 := by kernel_rfl
theorem tStruct_90_2 : tStruct Tryz.prog 90 2 = true := by kernel_rfl
theorem tOff_90_2 : tOff Tryz.prog 90 2 = 2 := by kernel_rfl
theorem tFld_90_2 : tFld Tryz.prog 90 2 = 4 := by kernel_rfl
theorem tStruct_90_3 : tStruct Tryz.prog 90 3 = true := by kernel_rfl
theorem tOff_90_3 : tOff Tryz.prog 90 3 = 3 := by kernel_rfl
theorem tFld_90_3 : tFld Tryz.prog 90 3 = 44 := by kernel_rfl
theorem tZok_99 : tZok Tryz.prog 99 = true := by kernel_rfl
theorem tZ_99 : tZ Tryz.prog 99 = [str [], .slice none 0 0, str [], .int .i64 0, .int .i64 0, .slice none 0 0] := by kernel_rfl
theorem tCS_99 : tCS Tryz.prog 99 = [0, 1, 0, 0, 0, 11] := by kernel_rfl
theorem tPlain_99 : tPlain Tryz.prog 99 = true := by kernel_rfl
theorem tStruct_99_0 : tStruct Tryz.prog 99 0 = true := by kernel_rfl
theorem tOff_99_0 : tOff Tryz.prog 99 0 = 0 := by kernel_rfl
theorem tFld_99_0 : tFld Tryz.prog 99 0 = 70 := by kernel_rfl
theorem tStruct_99_1 : tStruct Tryz.prog 99 1 = true := by kernel_rfl
theorem tOff_99_1 : tOff Tryz.prog 99 1 = 2 := by kernel_rfl
theorem tFld_99_1 : tFld Tryz.prog 99 1 = 9 := by kernel_rfl
theorem tStruct_99_2 : tStruct Tryz.prog 99 2 = true := by kernel_rfl
theorem tOff_99_2 : tOff Tryz.prog 99 2 = 3 := by kernel_rfl
theorem tFld_99_2 : tFld Tryz.prog 99 2 = 3 := by kernel_rfl
theorem tStruct_99_3 : tStruct Tryz.prog 99 3 = true := by kernel_rfl
theorem tOff_99_3 : tOff Tryz.prog 99 3 = 4 := by kernel_rfl
theorem tFld_99_3 : tFld Tryz.prog 99 3 = 3 := by kernel_rfl
theorem tStruct_99_4 : tStruct Tryz.prog 99 4 = true := by kernel_rfl
theorem tOff_99_4 : tOff Tryz.prog 99 4 = 5 := by kernel_rfl
theorem tFld_99_4 : tFld Tryz.prog 99 4 = 24 := by kernel_rfl
theorem tZok_155 : tZok Tryz.prog 155 = true := by kernel_rfl
theorem tZ_155 : tZ Tryz.prog 155 = [.slice none 0 0, .slice none 0 0, .int .i64 0, .int .i64 0] := by kernel_rfl
theorem tCS_155 : tCS Tryz.prog 155 = [5, 2, 0, 0] := by kernel_rfl
theorem tPlain_155 : tPlain Tryz.prog 155 = true := by kernel_rfl
theorem tStruct_155_0 : tStruct Tryz.prog 155 0 = true := by kernel_rfl
theorem tOff_155_0 : tOff Tryz.prog 155 0 = 0 := by kernel_rfl
theorem tFld_155_0 : tFld Tryz.prog 155 0 = 28 := by kernel_rfl
theorem tStruct_155_1 : tStruct Tryz.prog 155 1 = true := by kernel_rfl
theorem tOff_155_1 : tOff Tryz.prog 155 1 = 1 := by kernel_rfl
theorem tFld_155_1 : tFld Tryz.prog 155 1 = 37 := by kernel_rfl
theorem tStruct_155_2 : tStruct Tryz.prog 155 2 = true := by kernel_rfl
theorem tOff_155_2 : tOff Tryz.prog 155 2 = 2 := by kernel_rfl
theorem tFld_155_2 : tFld Tryz.prog 155 2 = 3 := by kernel_rfl
theorem tStruct_155_3 : tStruct Tryz.prog 155 3 = true := by kernel_rfl
theorem tOff_155_3 : tOff Tryz.prog 155 3 = 3 := by kernel_rfl
theorem tFld_155_3 : tFld Tryz.prog 155 3 = 3 := by kernel_rfl
theorem tKnown_156 : tKnown Tryz.prog 156 = true := by kernel_rfl
theorem tSize_156 : tSize Tryz.prog 156 = 3 := by kernel_rfl
theorem tAgg_156 : tAgg Tryz.prog 156 = true := by kernel_rfl
theorem tZok_156 : tZok Tryz.prog 156 = true := by kernel_rfl
theorem tZ_156 : tZ Tryz.prog 156 = [.int .i64 0, .int .i64 0, .int .i64 0] := by kernel_rfl
theorem tCS_156 : tCS Tryz.prog 156 = [0, 0, 0] := by kernel_rfl
theorem tNoIface_156 : tNoIface Tryz.prog 156 = true := by kernel_rfl
theorem tPlain_156 : tPlain Tryz.prog 156 = true := by kernel_rfl
theorem tStruct_156_0 : tStruct Tryz.prog 156 0 = true := by kernel_rfl
theorem tOff_156_0 : tOff Tryz.prog 156 0 = 0 := by kernel_rfl
theorem tFld_156_0 : tFld Tryz.prog 156 0 = 31 := by kernel_rfl
theorem tKnown_157 : tKnown Tryz.prog 157 = true := by kernel_rfl
theorem tSize_157 : tSize Tryz.prog 157 = 1 := by kernel_rfl
theorem tAgg_157 : tAgg Tryz.prog 157 = false := by kernel_rfl
theorem tCS_157 : tCS Tryz.prog 157 = [0] := by kernel_rfl
theorem tZok_159 : tZok Tryz.prog 159 = true := by kernel_rfl
theorem tZ_159 : tZ Tryz.prog 159 = [.slice none 0 0, .int .i64 0, .int .i64 0, .int .i64 0] := by kernel_rfl
theorem tCS_159 : tCS Tryz.prog 159 = [11, 0, 0, 0] := by kernel_rfl
theorem tPlain_159 : tPlain Tryz.prog 159 = true := by kernel_rfl
theorem tStruct_159_0 : tStruct Tryz.prog 159 0 = true := by kernel_rfl
theorem tOff_159_0 : tOff Tryz.prog 159 0 = 0 := by kernel_rfl
theorem tFld_159_0 : tFld Tryz.prog 159 0 = 24 := by kernel_rfl
theorem tStruct_159_1 : tStruct Tryz.prog 159 1 = true := by kernel_rfl
theorem tOff_159_1 : tOff Tryz.prog 159 1 = 1 := by kernel_rfl
theorem tFld_159_1 : tFld Tryz.prog 159 1 = 3 := by kernel_rfl
theorem tStruct_159_2 : tStruct Tryz.prog 159 2 = true := by kernel_rfl
theorem tOff_159_2 : tOff Tryz.prog 159 2 = 2 := by kernel_rfl
theorem tFld_159_2 : tFld Tryz.prog 159 2 = 3 := by kernel_rfl
theorem tStruct_159_3 : tStruct Tryz.prog 159 3 = true := by kernel_rfl
theorem tOff_159_3 : tOff Tryz.prog 159 3 = 3 := by kernel_rfl
theorem tFld_159_3 : tFld Tryz.prog 159 3 = 3 := by kernel_rfl
theorem tKnown_170 : tKnown Tryz.prog 170 = true := by kernel_rfl
theorem tSize_170 : tSize Tryz.prog 170 = 3 := by kernel_rfl
theorem tAgg_170 : tAgg Tryz.prog 170 = true := by kernel_rfl
theorem tZok_170 : tZok Tryz.prog 170 = true := by kernel_rfl
theorem tZ_170 : tZ Tryz.prog 170 = [.int .i64 0, .int .i64 0, .int .i64 0] := by kernel_rfl
theorem tCS_170 : tCS Tryz.prog 170 = [0, 0, 0] := by kernel_rfl
theorem tNoIface_170 : tNoIface Tryz.prog 170 = true := by kernel_rfl
theorem tPlain_170 : tPlain Tryz.prog 170 = true := by kernel_rfl
theorem tStruct_170_0 : tStruct Tryz.prog 170 0 = true := by kernel_rfl
theorem tOff_170_0 : tOff Tryz.prog 170 0 = 0 := by kernel_rfl
theorem tFld_170_0 : tFld Tryz.prog 170 0 = 31 := by kernel_rfl
theorem tKnown_171 : tKnown Tryz.prog 171 = true := by kernel_rfl
theorem tSize_171 : tSize Tryz.prog 171 = 1 := by kernel_rfl
theorem tAgg_171 : tAgg Tryz.prog 171 = false := by kernel_rfl
theorem tZok_171 : tZok Tryz.prog 171 = true := by kernel_rfl
theorem tZ_171 : tZ Tryz.prog 171 = [.slice none 0 0] := by kernel_rfl
theorem tCS_171 : tCS Tryz.prog 171 = [11] := by kernel_rfl
theorem tNilK_171 : tNilK Tryz.prog 171 = 1 := by kernel_rfl
theorem tSlice_171 : tSlice Tryz.prog 171 = true := by kernel_rfl
theorem tElem_171 : tElem Tryz.prog 171 = 44 := by kernel_rfl
theorem arrTy0_171 : arrTy0 171 = true := by kernel_rfl
theorem arrTy_171 : arrTy 171 = true := by kernel_rfl
theorem tKnown_178 : tKnown Tryz.prog 178 = true := by kernel_rfl
theorem tSize_178 : tSize Tryz.prog 178 = 2 := by kernel_rfl
theorem tAgg_178 : tAgg Tryz.prog 178 = true := by kernel_rfl
theorem tPlain_178 : tPlain Tryz.prog 178 = true := by kernel_rfl
theorem tALen_178 : tALen Tryz.prog 178 = 2 := by kernel_rfl
theorem tAEl_178 : tAEl Tryz.prog 178 = 3 := by kernel_rfl
theorem tAOk_178 : tAOk Tryz.prog 178 = true := by kernel_rfl
theorem tZok_178 : tZok Tryz.prog 178 = true := by kernel_rfl
theorem tZ_178 : tZ Tryz.prog 178 = [.int .i64 0, .int .i64 0] := by kernel_rfl
theorem tCS_178 : tCS Tryz.prog 178 = [0] := by kernel_rfl
theorem tKnown_198 : tKnown Tryz.prog 198 = true := by kernel_rfl
theorem tSize_198 : tSize Tryz.prog 198 = 3 := by kernel_rfl
theorem tAgg_198 : tAgg Tryz.prog 198 = true := by kernel_rfl
theorem tZok_198 : tZok Tryz.prog 198 = true := by kernel_rfl
theorem tZ_198 : tZ Tryz.prog 198 = [str [], .int .i64 0, .int .i64 0] := by kernel_rfl
theorem tCS_198 : tCS Tryz.prog 198 = [0, 0, 0] := by kernel_rfl
theorem tBytes_198 : tBytes Tryz.prog 198 = 32 := by kernel_rfl
theorem tPlain_198 : tPlain Tryz.prog 198 = true := by kernel_rfl
theorem tStruct_198_0 : tStruct Tryz.prog 198 0 = true := by kernel_rfl
theorem tOff_198_0 : tOff Tryz.prog 198 0 = 0 := by kernel_rfl
theorem tFld_198_0 : tFld Tryz.prog 198 0 = 9 := by kernel_rfl
theorem tStruct_198_1 : tStruct Tryz.prog 198 1 = true := by kernel_rfl
theorem tOff_198_1 : tOff Tryz.prog 198 1 = 1 := by kernel_rfl
theorem tFld_198_1 : tFld Tryz.prog 198 1 = 3 := by kernel_rfl
theorem tStruct_198_2 : tStruct Tryz.prog 198 2 = true := by kernel_rfl
theorem tOff_198_2 : tOff Tryz.prog 198 2 = 2 := by kernel_rfl
theorem tFld_198_2 : tFld Tryz.prog 198 2 = 3 := by kernel_rfl
theorem tKnown_210 : tKnown Tryz.prog 210 = true := by kernel_rfl
theorem tSize_210 : tSize Tryz.prog 210 = 1 := by kernel_rfl
theorem tAgg_210 : tAgg Tryz.prog 210 = false := by kernel_rfl
theorem tCS_210 : tCS Tryz.prog 210 = [0] := by kernel_rfl
theorem tNilK_210 : tNilK Tryz.prog 210 = 4 := by kernel_rfl
theorem tSlice_224 : tSlice Tryz.prog 224 = true := by kernel_rfl
theorem tElem_224 : tElem Tryz.prog 224 = 41 := by kernel_rfl
theorem tSlice_227 : tSlice Tryz.prog 227 = true := by kernel_rfl
theorem tElem_227 : tElem Tryz.prog 227 = 42 := by kernel_rfl
theorem y_3 : ((((type_of% @Tryz.underlying3) ∧ (type_of% @tAgg_3)) ∧ ((type_of% @tBytes_3) ∧ (type_of% @tCS_3))) ∧ (((type_of% @tKnown_3) ∧ (type_of% @tSize_3)) ∧ ((type_of% @tZ_3) ∧ (type_of% @tZok_3)))) := ⟨⟨⟨@Tryz.underlying3, @tAgg_3⟩, ⟨@tBytes_3, @tCS_3⟩⟩, ⟨⟨@tKnown_3, @tSize_3⟩, ⟨@tZ_3, @tZok_3⟩⟩⟩
theorem y_4 : ((((type_of% @Tryz.underlying4) ∧ (type_of% @tAgg_4)) ∧ ((type_of% @tBytes_4) ∧ (type_of% @tCS_4))) ∧ (((type_of% @tKnown_4) ∧ (type_of% @tSize_4)) ∧ ((type_of% @tZ_4) ∧ (type_of% @tZok_4)))) := ⟨⟨⟨@Tryz.underlying4, @tAgg_4⟩, ⟨@tBytes_4, @tCS_4⟩⟩, ⟨⟨@tKnown_4, @tSize_4⟩, ⟨@tZ_4, @tZok_4⟩⟩⟩
theorem y_5 : ((((type_of% @Tryz.underlying5) ∧ (type_of% @tAgg_5)) ∧ ((type_of% @tBytes_5) ∧ (type_of% @tCS_5))) ∧ (((type_of% @tKnown_5) ∧ (type_of% @tSize_5)) ∧ ((type_of% @tZ1_5) ∧ ((type_of% @tZ_5) ∧ (type_of% @tZok_5))))) := ⟨⟨⟨@Tryz.underlying5, @tAgg_5⟩, ⟨@tBytes_5, @tCS_5⟩⟩, ⟨⟨@tKnown_5, @tSize_5⟩, ⟨@tZ1_5, ⟨@tZ_5, @tZok_5⟩⟩⟩⟩
theorem y_9 : ((((type_of% @Tryz.underlying9) ∧ (type_of% @tAgg_9)) ∧ ((type_of% @tBytes_9) ∧ (type_of% @tCS_9))) ∧ (((type_of% @tKnown_9) ∧ (type_of% @tNoIface_9)) ∧ ((type_of% @tSize_9) ∧ ((type_of% @tZ_9) ∧ (type_of% @tZok_9))))) := ⟨⟨⟨@Tryz.underlying9, @tAgg_9⟩, ⟨@tBytes_9, @tCS_9⟩⟩, ⟨⟨@tKnown_9, @tNoIface_9⟩, ⟨@tSize_9, ⟨@tZ_9, @tZok_9⟩⟩⟩⟩
theorem y_20 : ((type_of% @tAnyI_20) ∧ (type_of% @tNilK_20)) := ⟨@tAnyI_20, @tNilK_20⟩
theorem y_24 : ((((type_of% @arrTy0_24) ∧ ((type_of% @arrTy_24) ∧ (type_of% @tAgg_24))) ∧ ((type_of% @tBytes_24) ∧ ((type_of% @tCS_24) ∧ (type_of% @tElem_24)))) ∧ (((type_of% @tKnown_24) ∧ ((type_of% @tNilK_24) ∧ (type_of% @tSize_24))) ∧ ((type_of% @tSlice_24) ∧ ((type_of% @tZ_24) ∧ (type_of% @tZok_24))))) := ⟨⟨⟨@arrTy0_24, ⟨@arrTy_24, @tAgg_24⟩⟩, ⟨@tBytes_24, ⟨@tCS_24, @tElem_24⟩⟩⟩, ⟨⟨@tKnown_24, ⟨@tNilK_24, @tSize_24⟩⟩, ⟨@tSlice_24, ⟨@tZ_24, @tZok_24⟩⟩⟩⟩
theorem y_25 : ((((type_of% @arrTy0_25) ∧ (type_of% @arrTy_25)) ∧ ((type_of% @tAgg_25) ∧ (type_of% @tCS_25))) ∧ (((type_of% @tElem_25) ∧ (type_of% @tKnown_25)) ∧ ((type_of% @tSize_25) ∧ (type_of% @tSlice_25)))) := ⟨⟨⟨@arrTy0_25, @arrTy_25⟩, ⟨@tAgg_25, @tCS_25⟩⟩, ⟨⟨@tElem_25, @tKnown_25⟩, ⟨@tSize_25, @tSlice_25⟩⟩⟩
theorem y_27 : ((((type_of% @tAgg_27) ∧ ((type_of% @tCS_27) ∧ (type_of% @tFld_27_0))) ∧ ((type_of% @tFld_27_1) ∧ ((type_of% @tKnown_27) ∧ (type_of% @tOff_27_0)))) ∧ (((type_of% @tOff_27_1) ∧ ((type_of% @tPlain_27) ∧ (type_of% @tSize_27))) ∧ (((type_of% @tStruct_27_0) ∧ (type_of% @tStruct_27_1)) ∧ ((type_of% @tZ_27) ∧ (type_of% @tZok_27))))) := ⟨⟨⟨@tAgg_27, ⟨@tCS_27, @tFld_27_0⟩⟩, ⟨@tFld_27_1, ⟨@tKnown_27, @tOff_27_0⟩⟩⟩, ⟨⟨@tOff_27_1, ⟨@tPlain_27, @tSize_27⟩⟩, ⟨⟨@tStruct_27_0, @tStruct_27_1⟩, ⟨@tZ_27, @tZok_27⟩⟩⟩⟩
theorem y_28 : ((((type_of% @arrTy0_28) ∧ (type_of% @arrTy_28)) ∧ ((type_of% @tAgg_28) ∧ ((type_of% @tCS_28) ∧ (type_of% @tElem_28)))) ∧ (((type_of% @tKnown_28) ∧ ((type_of% @tNilK_28) ∧ (type_of% @tSize_28))) ∧ ((type_of% @tSlice_28) ∧ ((type_of% @tZ_28) ∧ (type_of% @tZok_28))))) := ⟨⟨⟨@arrTy0_28, @arrTy_28⟩, ⟨@tAgg_28, ⟨@tCS_28, @tElem_28⟩⟩⟩, ⟨⟨@tKnown_28, ⟨@tNilK_28, @tSize_28⟩⟩, ⟨@tSlice_28, ⟨@tZ_28, @tZok_28⟩⟩⟩⟩
theorem y_29 : (((type_of% @tAgg_29) ∧ (type_of% @tCS_29)) ∧ ((type_of% @tKnown_29) ∧ (type_of% @tSize_29))) := ⟨⟨@tAgg_29, @tCS_29⟩, ⟨@tKnown_29, @tSize_29⟩⟩
theorem y_31 : (((((type_of% @tAgg_31) ∧ (type_of% @tCS_31)) ∧ ((type_of% @tFld_31_0) ∧ (type_of% @tFld_31_1))) ∧ (((type_of% @tFld_31_2) ∧ (type_of% @tKnown_31)) ∧ ((type_of% @tOff_31_0) ∧ (type_of% @tOff_31_1)))) ∧ ((((type_of% @tOff_31_2) ∧ (type_of% @tPlain_31)) ∧ ((type_of% @tSize_31) ∧ (type_of% @tStruct_31_0))) ∧ (((type_of% @tStruct_31_1) ∧ (type_of% @tStruct_31_2)) ∧ ((type_of% @tZ_31) ∧ (type_of% @tZok_31))))) := ⟨⟨⟨⟨@tAgg_31, @tCS_31⟩, ⟨@tFld_31_0, @tFld_31_1⟩⟩, ⟨⟨@tFld_31_2, @tKnown_31⟩, ⟨@tOff_31_0, @tOff_31_1⟩⟩⟩, ⟨⟨⟨@tOff_31_2, @tPlain_31⟩, ⟨@tSize_31, @tStruct_31_0⟩⟩, ⟨⟨@tStruct_31_1, @tStruct_31_2⟩, ⟨@tZ_31, @tZok_31⟩⟩⟩⟩
theorem y_35 : ((((type_of% @tAgg_35) ∧ ((type_of% @tBytes_35) ∧ (type_of% @tCS_35))) ∧ (((type_of% @tFld_35_0) ∧ (type_of% @tFld_35_1)) ∧ ((type_of% @tKnown_35) ∧ (type_of% @tOff_35_0)))) ∧ (((type_of% @tOff_35_1) ∧ ((type_of% @tPlain_35) ∧ (type_of% @tSize_35))) ∧ (((type_of% @tStruct_35_0) ∧ (type_of% @tStruct_35_1)) ∧ ((type_of% @tZ_35) ∧ (type_of% @tZok_35))))) := ⟨⟨⟨@tAgg_35, ⟨@tBytes_35, @tCS_35⟩⟩, ⟨⟨@tFld_35_0, @tFld_35_1⟩, ⟨@tKnown_35, @tOff_35_0⟩⟩⟩, ⟨⟨@tOff_35_1, ⟨@tPlain_35, @tSize_35⟩⟩, ⟨⟨@tStruct_35_0, @tStruct_35_1⟩, ⟨@tZ_35, @tZok_35⟩⟩⟩⟩
theorem y_37 : ((((type_of% @arrTy0_37) ∧ (type_of% @arrTy_37)) ∧ ((type_of% @tAgg_37) ∧ (type_of% @tCS_37))) ∧ (((type_of% @tElem_37) ∧ (type_of% @tKnown_37)) ∧ ((type_of% @tSize_37) ∧ (type_of% @tSlice_37)))) := ⟨⟨⟨@arrTy0_37, @arrTy_37⟩, ⟨@tAgg_37, @tCS_37⟩⟩, ⟨⟨@tElem_37, @tKnown_37⟩, ⟨@tSize_37, @tSlice_37⟩⟩⟩
theorem y_39 : (((((type_of% @tAgg_39) ∧ (type_of% @tCS_39)) ∧ ((type_of% @tFld_39_0) ∧ (type_of% @tFld_39_1))) ∧ (((type_of% @tFld_39_2) ∧ (type_of% @tKnown_39)) ∧ ((type_of% @tOff_39_0) ∧ (type_of% @tOff_39_1)))) ∧ ((((type_of% @tOff_39_2) ∧ (type_of% @tPlain_39)) ∧ ((type_of% @tSize_39) ∧ (type_of% @tStruct_39_0))) ∧ (((type_of% @tStruct_39_1) ∧ (type_of% @tStruct_39_2)) ∧ ((type_of% @tZ_39) ∧ (type_of% @tZok_39))))) := ⟨⟨⟨⟨@tAgg_39, @tCS_39⟩, ⟨@tFld_39_0, @tFld_39_1⟩⟩, ⟨⟨@tFld_39_2, @tKnown_39⟩, ⟨@tOff_39_0, @tOff_39_1⟩⟩⟩, ⟨⟨⟨@tOff_39_2, @tPlain_39⟩, ⟨@tSize_39, @tStruct_39_0⟩⟩, ⟨⟨@tStruct_39_1, @tStruct_39_2⟩, ⟨@tZ_39, @tZok_39⟩⟩⟩⟩
theorem y_41 : ((((type_of% @arrTy0_41) ∧ ((type_of% @arrTy_41) ∧ (type_of% @tAgg_41))) ∧ ((type_of% @tBytes_41) ∧ ((type_of% @tCS_41) ∧ (type_of% @tElem_41)))) ∧ (((type_of% @tKnown_41) ∧ ((type_of% @tNilK_41) ∧ (type_of% @tSize_41))) ∧ ((type_of% @tSlice_41) ∧ ((type_of% @tZ_41) ∧ (type_of% @tZok_41))))) := ⟨⟨⟨@arrTy0_41, ⟨@arrTy_41, @tAgg_41⟩⟩, ⟨@tBytes_41, ⟨@tCS_41, @tElem_41⟩⟩⟩, ⟨⟨@tKnown_41, ⟨@tNilK_41, @tSize_41⟩⟩, ⟨@tSlice_41, ⟨@tZ_41, @tZok_41⟩⟩⟩⟩
theorem y_42 : ((((type_of% @arrTy0_42) ∧ ((type_of% @arrTy_42) ∧ (type_of% @tAgg_42))) ∧ ((type_of% @tBytes_42) ∧ ((type_of% @tCS_42) ∧ (type_of% @tElem_42)))) ∧ (((type_of% @tKnown_42) ∧ ((type_of% @tNilK_42) ∧ (type_of% @tSize_42))) ∧ ((type_of% @tSlice_42) ∧ ((type_of% @tZ_42) ∧ (type_of% @tZok_42))))) := ⟨⟨⟨@arrTy0_42, ⟨@arrTy_42, @tAgg_42⟩⟩, ⟨@tBytes_42, ⟨@tCS_42, @tElem_42⟩⟩⟩, ⟨⟨@tKnown_42, ⟨@tNilK_42, @tSize_42⟩⟩, ⟨@tSlice_42, ⟨@tZ_42, @tZok_42⟩⟩⟩⟩
theorem y_44 : ((((((type_of% @tAgg_44) ∧ (type_of% @tBytes_44)) ∧ ((type_of% @tCS_44) ∧ ((type_of% @tFld_44_0) ∧ (type_of% @tFld_44_1)))) ∧ (((type_of% @tFld_44_10) ∧ (type_of% @tFld_44_2)) ∧ ((type_of% @tFld_44_3) ∧ ((type_of% @tFld_44_4) ∧ (type_of% @tFld_44_5))))) ∧ ((((type_of% @tFld_44_6) ∧ (type_of% @tFld_44_7)) ∧ ((type_of% @tFld_44_8) ∧ ((type_of% @tFld_44_9) ∧ (type_of% @tKnown_44)))) ∧ (((type_of% @tOff_44_0) ∧ (type_of% @tOff_44_1)) ∧ ((type_of% @tOff_44_10) ∧ ((type_of% @tOff_44_2) ∧ (type_of% @tOff_44_3)))))) ∧ (((((type_of% @tOff_44_4) ∧ (type_of% @tOff_44_5)) ∧ ((type_of% @tOff_44_6) ∧ ((type_of% @tOff_44_7) ∧ (type_of% @tOff_44_8)))) ∧ (((type_of% @tOff_44_9) ∧ (type_of% @tPlain_44)) ∧ ((type_of% @tSize_44) ∧ ((type_of% @tStruct_44_0) ∧ (type_of% @tStruct_44_1))))) ∧ ((((type_of% @tStruct_44_10) ∧ (type_of% @tStruct_44_2)) ∧ ((type_of% @tStruct_44_3) ∧ ((type_of% @tStruct_44_4) ∧ (type_of% @tStruct_44_5)))) ∧ (((type_of% @tStruct_44_6) ∧ ((type_of% @tStruct_44_7) ∧ (type_of% @tStruct_44_8))) ∧ ((type_of% @tStruct_44_9) ∧ ((type_of% @tZ_44) ∧ (type_of% @tZok_44))))))) := ⟨⟨⟨⟨⟨@tAgg_44, @tBytes_44⟩, ⟨@tCS_44, ⟨@tFld_44_0, @tFld_44_1⟩⟩⟩, ⟨⟨@tFld_44_10, @tFld_44_2⟩, ⟨@tFld_44_3, ⟨@tFld_44_4, @tFld_44_5⟩⟩⟩⟩, ⟨⟨⟨@tFld_44_6, @tFld_44_7⟩, ⟨@tFld_44_8, ⟨@tFld_44_9, @tKnown_44⟩⟩⟩, ⟨⟨@tOff_44_0, @tOff_44_1⟩, ⟨@tOff_44_10, ⟨@tOff_44_2, @tOff_44_3⟩⟩⟩⟩⟩, ⟨⟨⟨⟨@tOff_44_4, @tOff_44_5⟩, ⟨@tOff_44_6, ⟨@tOff_44_7, @tOff_44_8⟩⟩⟩, ⟨⟨@tOff_44_9, @tPlain_44⟩, ⟨@tSize_44, ⟨@tStruct_44_0, @tStruct_44_1⟩⟩⟩⟩, ⟨⟨⟨@tStruct_44_10, @tStruct_44_2⟩, ⟨@tStruct_44_3, ⟨@tStruct_44_4, @tStruct_44_5⟩⟩⟩, ⟨⟨@tStruct_44_6, ⟨@tStruct_44_7, @tStruct_44_8⟩⟩, ⟨@tStruct_44_9, ⟨@tZ_44, @tZok_44⟩⟩⟩⟩⟩⟩
theorem y_55 : ((((type_of% @Tryz.underlying55) ∧ (type_of% @arrTy0_55)) ∧ ((type_of% @arrTy_55) ∧ (type_of% @tAgg_55))) ∧ (((type_of% @tCS_55) ∧ (type_of% @tElem_55)) ∧ ((type_of% @tKnown_55) ∧ ((type_of% @tSize_55) ∧ (type_of% @tSlice_55))))) := ⟨⟨⟨@Tryz.underlying55, @arrTy0_55⟩, ⟨@arrTy_55, @tAgg_55⟩⟩, ⟨⟨@tCS_55, @tElem_55⟩, ⟨@tKnown_55, ⟨@tSize_55, @tSlice_55⟩⟩⟩⟩
theorem y_57 : ((type_of% @tElem_57) ∧ (type_of% @tSlice_57)) := ⟨@tElem_57, @tSlice_57⟩
theorem y_63 : (((((type_of% @tAgg_63) ∧ (type_of% @tBytes_63)) ∧ ((type_of% @tCS_63) ∧ ((type_of% @tFld_63_0) ∧ (type_of% @tFld_63_1)))) ∧ (((type_of% @tFld_63_2) ∧ ((type_of% @tFld_63_3) ∧ (type_of% @tFld_63_4))) ∧ ((type_of% @tKnown_63) ∧ ((type_of% @tOff_63_0) ∧ (type_of% @tOff_63_1))))) ∧ ((((type_of% @tOff_63_2) ∧ ((type_of% @tOff_63_3) ∧ (type_of% @tOff_63_4))) ∧ ((type_of% @tPlain_63) ∧ ((type_of% @tSize_63) ∧ (type_of% @tStruct_63_0)))) ∧ (((type_of% @tStruct_63_1) ∧ ((type_of% @tStruct_63_2) ∧ (type_of% @tStruct_63_3))) ∧ ((type_of% @tStruct_63_4) ∧ ((type_of% @tZ_63) ∧ (type_of% @tZok_63)))))) := ⟨⟨⟨⟨@tAgg_63, @tBytes_63⟩, ⟨@tCS_63, ⟨@tFld_63_0, @tFld_63_1⟩⟩⟩, ⟨⟨@tFld_63_2, ⟨@tFld_63_3, @tFld_63_4⟩⟩, ⟨@tKnown_63, ⟨@tOff_63_0, @tOff_63_1⟩⟩⟩⟩, ⟨⟨⟨@tOff_63_2, ⟨@tOff_63_3, @tOff_63_4⟩⟩, ⟨@tPlain_63, ⟨@tSize_63, @tStruct_63_0⟩⟩⟩, ⟨⟨@tStruct_63_1, ⟨@tStruct_63_2, @tStruct_63_3⟩⟩, ⟨@tStruct_63_4, ⟨@tZ_63, @tZok_63⟩⟩⟩⟩⟩
theorem y_65 : (((((type_of% @tCS_65) ∧ (type_of% @tFld_65_0)) ∧ ((type_of% @tFld_65_1) ∧ ((type_of% @tFld_65_2) ∧ (type_of% @tFld_65_3)))) ∧ (((type_of% @tFld_65_4) ∧ ((type_of% @tFld_65_5) ∧ (type_of% @tOff_65_0))) ∧ ((type_of% @tOff_65_1) ∧ ((type_of% @tOff_65_2) ∧ (type_of% @tOff_65_3))))) ∧ ((((type_of% @tOff_65_4) ∧ (type_of% @tOff_65_5)) ∧ ((type_of% @tPlain_65) ∧ ((type_of% @tStruct_65_0) ∧ (type_of% @tStruct_65_1)))) ∧ (((type_of% @tStruct_65_2) ∧ ((type_of% @tStruct_65_3) ∧ (type_of% @tStruct_65_4))) ∧ ((type_of% @tStruct_65_5) ∧ ((type_of% @tZ_65) ∧ (type_of% @tZok_65)))))) := ⟨⟨⟨⟨@tCS_65, @tFld_65_0⟩, ⟨@tFld_65_1, ⟨@tFld_65_2, @tFld_65_3⟩⟩⟩, ⟨⟨@tFld_65_4, ⟨@tFld_65_5, @tOff_65_0⟩⟩, ⟨@tOff_65_1, ⟨@tOff_65_2, @tOff_65_3⟩⟩⟩⟩, ⟨⟨⟨@tOff_65_4, @tOff_65_5⟩, ⟨@tPlain_65, ⟨@tStruct_65_0, @tStruct_65_1⟩⟩⟩, ⟨⟨@tStruct_65_2, ⟨@tStruct_65_3, @tStruct_65_4⟩⟩, ⟨@tStruct_65_5, ⟨@tZ_65, @tZok_65⟩⟩⟩⟩⟩
theorem y_70 : ((((type_of% @tAgg_70) ∧ ((type_of% @tCS_70) ∧ (type_of% @tFld_70_0))) ∧ ((type_of% @tFld_70_1) ∧ ((type_of% @tKnown_70) ∧ (type_of% @tOff_70_0)))) ∧ (((type_of% @tOff_70_1) ∧ ((type_of% @tPlain_70) ∧ (type_of% @tSize_70))) ∧ (((type_of% @tStruct_70_0) ∧ (type_of% @tStruct_70_1)) ∧ ((type_of% @tZ_70) ∧ (type_of% @tZok_70))))) := ⟨⟨⟨@tAgg_70, ⟨@tCS_70, @tFld_70_0⟩⟩, ⟨@tFld_70_1, ⟨@tKnown_70, @tOff_70_0⟩⟩⟩, ⟨⟨@tOff_70_1, ⟨@tPlain_70, @tSize_70⟩⟩, ⟨⟨@tStruct_70_0, @tStruct_70_1⟩, ⟨@tZ_70, @tZok_70⟩⟩⟩⟩
theorem y_78 : ((((type_of% @tAgg_78) ∧ (type_of% @tCS_78)) ∧ ((type_of% @tFld_78_0) ∧ ((type_of% @tKnown_78) ∧ (type_of% @tNoIface_78)))) ∧ (((type_of% @tOff_78_0) ∧ ((type_of% @tPlain_78) ∧ (type_of% @tSize_78))) ∧ ((type_of% @tStruct_78_0) ∧ ((type_of% @tZ_78) ∧ (type_of% @tZok_78))))) := ⟨⟨⟨@tAgg_78, @tCS_78⟩, ⟨@tFld_78_0, ⟨@tKnown_78, @tNoIface_78⟩⟩⟩, ⟨⟨@tOff_78_0, ⟨@tPlain_78, @tSize_78⟩⟩, ⟨@tStruct_78_0, ⟨@tZ_78, @tZok_78⟩⟩⟩⟩
theorem y_80 : (((type_of% @arrTy0_80) ∧ (type_of% @arrTy_80)) ∧ ((type_of% @tElem_80) ∧ (type_of% @tSlice_80))) := ⟨⟨@arrTy0_80, @arrTy_80⟩, ⟨@tElem_80, @tSlice_80⟩⟩
theorem y_81 : (((type_of% @arrTy0_81) ∧ (type_of% @arrTy_81)) ∧ ((type_of% @tElem_81) ∧ (type_of% @tSlice_81))) := ⟨⟨@arrTy0_81, @arrTy_81⟩, ⟨@tElem_81, @tSlice_81⟩⟩
theorem y_90 : (((((type_of% @tAgg_90) ∧ (type_of% @tBytes_90)) ∧ ((type_of% @tCS_90) ∧ ((type_of% @tFld_90_0) ∧ (type_of% @tFld_90_1)))) ∧ (((type_of% @tFld_90_2) ∧ (type_of% @tFld_90_3)) ∧ ((type_of% @tKnown_90) ∧ ((type_of% @tOff_90_0) ∧ (type_of% @tOff_90_1))))) ∧ ((((type_of% @tOff_90_2) ∧ (type_of% @tOff_90_3)) ∧ ((type_of% @tPlain_90) ∧ ((type_of% @tSize_90) ∧ (type_of% @tStruct_90_0)))) ∧ (((type_of% @tStruct_90_1) ∧ (type_of% @tStruct_90_2)) ∧ ((type_of% @tStruct_90_3) ∧ ((type_of% @tZ_90) ∧ (type_of% @tZok_90)))))) := ⟨⟨⟨⟨@tAgg_90, @tBytes_90⟩, ⟨@tCS_90, ⟨@tFld_90_0, @tFld_90_1⟩⟩⟩, ⟨⟨@tFld_90_2, @tFld_90_3⟩, ⟨@tKnown_90, ⟨@tOff_90_0, @tOff_90_1⟩⟩⟩⟩, ⟨⟨⟨@tOff_90_2, @tOff_90_3⟩, ⟨@tPlain_90, ⟨@tSize_90, @tStruct_90_0⟩⟩⟩, ⟨⟨@tStruct_90_1, @tStruct_90_2⟩, ⟨@tStruct_90_3, ⟨@tZ_90, @tZok_90⟩⟩⟩⟩⟩
theorem y_99 : (((((type_of% @tCS_99) ∧ (type_of% @tFld_99_0)) ∧ ((type_of% @tFld_99_1) ∧ (type_of% @tFld_99_2))) ∧ (((type_of% @tFld_99_3) ∧ (type_of% @tFld_99_4)) ∧ ((type_of% @tOff_99_0) ∧ ((type_of% @tOff_99_1) ∧ (type_of% @tOff_99_2))))) ∧ ((((type_of% @tOff_99_3) ∧ (type_of% @tOff_99_4)) ∧ ((type_of% @tPlain_99) ∧ ((type_of% @tStruct_99_0) ∧ (type_of% @tStruct_99_1)))) ∧ (((type_of% @tStruct_99_2) ∧ (type_of% @tStruct_99_3)) ∧ ((type_of% @tStruct_99_4) ∧ ((type_of% @tZ_99) ∧ (type_of% @tZok_99)))))) := ⟨⟨⟨⟨@tCS_99, @tFld_99_0⟩, ⟨@tFld_99_1, @tFld_99_2⟩⟩, ⟨⟨@tFld_99_3, @tFld_99_4⟩, ⟨@tOff_99_0, ⟨@tOff_99_1, @tOff_99_2⟩⟩⟩⟩, ⟨⟨⟨@tOff_99_3, @tOff_99_4⟩, ⟨@tPlain_99, ⟨@tStruct_99_0, @tStruct_99_1⟩⟩⟩, ⟨⟨@tStruct_99_2, @tStruct_99_3⟩, ⟨@tStruct_99_4, ⟨@tZ_99, @tZok_99⟩⟩⟩⟩⟩
theorem y_155 : (((((type_of% @tCS_155) ∧ (type_of% @tFld_155_0)) ∧ ((type_of% @tFld_155_1) ∧ (type_of% @tFld_155_2))) ∧ (((type_of% @tFld_155_3) ∧ (type_of% @tOff_155_0)) ∧ ((type_of% @tOff_155_1) ∧ (type_of% @tOff_155_2)))) ∧ ((((type_of% @tOff_155_3) ∧ (type_of% @tPlain_155)) ∧ ((type_of% @tStruct_155_0) ∧ (type_of% @tStruct_155_1))) ∧ (((type_of% @tStruct_155_2) ∧ (type_of% @tStruct_155_3)) ∧ ((type_of% @tZ_155) ∧ (type_of% @tZok_155))))) := ⟨⟨⟨⟨@tCS_155, @tFld_155_0⟩, ⟨@tFld_155_1, @tFld_155_2⟩⟩, ⟨⟨@tFld_155_3, @tOff_155_0⟩, ⟨@tOff_155_1, @tOff_155_2⟩⟩⟩, ⟨⟨⟨@tOff_155_3, @tPlain_155⟩, ⟨@tStruct_155_0, @tStruct_155_1⟩⟩, ⟨⟨@tStruct_155_2, @tStruct_155_3⟩, ⟨@tZ_155, @tZok_155⟩⟩⟩⟩
theorem y_156 : ((((type_of% @tAgg_156) ∧ (type_of% @tCS_156)) ∧ ((type_of% @tFld_156_0) ∧ ((type_of% @tKnown_156) ∧ (type_of% @tNoIface_156)))) ∧ (((type_of% @tOff_156_0) ∧ ((type_of% @tPlain_156) ∧ (type_of% @tSize_156))) ∧ ((type_of% @tStruct_156_0) ∧ ((type_of% @tZ_156) ∧ (type_of% @tZok_156))))) := ⟨⟨⟨@tAgg_156, @tCS_156⟩, ⟨@tFld_156_0, ⟨@tKnown_156, @tNoIface_156⟩⟩⟩, ⟨⟨@tOff_156_0, ⟨@tPlain_156, @tSize_156⟩⟩, ⟨@tStruct_156_0, ⟨@tZ_156, @tZok_156⟩⟩⟩⟩
theorem y_157 : (((type_of% @tAgg_157) ∧ (type_of% @tCS_157)) ∧ ((type_of% @tKnown_157) ∧ (type_of% @tSize_157))) := ⟨⟨@tAgg_157, @tCS_157⟩, ⟨@tKnown_157, @tSize_157⟩⟩
theorem y_159 : (((((type_of% @tCS_159) ∧ (type_of% @tFld_159_0)) ∧ ((type_of% @tFld_159_1) ∧ (type_of% @tFld_159_2))) ∧ (((type_of% @tFld_159_3) ∧ (type_of% @tOff_159_0)) ∧ ((type_of% @tOff_159_1) ∧ (type_of% @tOff_159_2)))) ∧ ((((type_of% @tOff_159_3) ∧ (type_of% @tPlain_159)) ∧ ((type_of% @tStruct_159_0) ∧ (type_of% @tStruct_159_1))) ∧ (((type_of% @tStruct_159_2) ∧ (type_of% @tStruct_159_3)) ∧ ((type_of% @tZ_159) ∧ (type_of% @tZok_159))))) := ⟨⟨⟨⟨@tCS_159, @tFld_159_0⟩, ⟨@tFld_159_1, @tFld_159_2⟩⟩, ⟨⟨@tFld_159_3, @tOff_159_0⟩, ⟨@tOff_159_1, @tOff_159_2⟩⟩⟩, ⟨⟨⟨@tOff_159_3, @tPlain_159⟩, ⟨@tStruct_159_0, @tStruct_159_1⟩⟩, ⟨⟨@tStruct_159_2, @tStruct_159_3⟩, ⟨@tZ_159, @tZok_159⟩⟩⟩⟩
theorem y_170 : ((((type_of% @tAgg_170) ∧ (type_of% @tCS_170)) ∧ ((type_of% @tFld_170_0) ∧ ((type_of% @tKnown_170) ∧ (type_of% @tNoIface_170)))) ∧ (((type_of% @tOff_170_0) ∧ ((type_of% @tPlain_170) ∧ (type_of% @tSize_170))) ∧ ((type_of% @tStruct_170_0) ∧ ((type_of% @tZ_170) ∧ (type_of% @tZok_170))))) := ⟨⟨⟨@tAgg_170, @tCS_170⟩, ⟨@tFld_170_0, ⟨@tKnown_170, @tNoIface_170⟩⟩⟩, ⟨⟨@tOff_170_0, ⟨@tPlain_170, @tSize_170⟩⟩, ⟨@tStruct_170_0, ⟨@tZ_170, @tZok_170⟩⟩⟩⟩
theorem y_171 : ((((type_of% @arrTy0_171) ∧ (type_of% @arrTy_171)) ∧ ((type_of% @tAgg_171) ∧ ((type_of% @tCS_171) ∧ (type_of% @tElem_171)))) ∧ (((type_of% @tKnown_171) ∧ ((type_of% @tNilK_171) ∧ (type_of% @tSize_171))) ∧ ((type_of% @tSlice_171) ∧ ((type_of% @tZ_171) ∧ (type_of% @tZok_171))))) := ⟨⟨⟨@arrTy0_171, @arrTy_171⟩, ⟨@tAgg_171, ⟨@tCS_171, @tElem_171⟩⟩⟩, ⟨⟨@tKnown_171, ⟨@tNilK_171, @tSize_171⟩⟩, ⟨@tSlice_171, ⟨@tZ_171, @tZok_171⟩⟩⟩⟩
theorem y_178 : ((((type_of% @tAEl_178) ∧ (type_of% @tALen_178)) ∧ ((type_of% @tAOk_178) ∧ ((type_of% @tAgg_178) ∧ (type_of% @tCS_178)))) ∧ (((type_of% @tKnown_178) ∧ (type_of% @tPlain_178)) ∧ ((type_of% @tSize_178) ∧ ((type_of% @tZ_178) ∧ (type_of% @tZok_178))))) := ⟨⟨⟨@tAEl_178, @tALen_178⟩, ⟨@tAOk_178, ⟨@tAgg_178, @tCS_178⟩⟩⟩, ⟨⟨@tKnown_178, @tPlain_178⟩, ⟨@tSize_178, ⟨@tZ_178, @tZok_178⟩⟩⟩⟩
theorem y_198 : (((((type_of% @tAgg_198) ∧ (type_of% @tBytes_198)) ∧ ((type_of% @tCS_198) ∧ (type_of% @tFld_198_0))) ∧ (((type_of% @tFld_198_1) ∧ (type_of% @tFld_198_2)) ∧ ((type_of% @tKnown_198) ∧ (type_of% @tOff_198_0)))) ∧ ((((type_of% @tOff_198_1) ∧ (type_of% @tOff_198_2)) ∧ ((type_of% @tPlain_198) ∧ (type_of% @tSize_198))) ∧ (((type_of% @tStruct_198_0) ∧ (type_of% @tStruct_198_1)) ∧ ((type_of% @tStruct_198_2) ∧ ((type_of% @tZ_198) ∧ (type_of% @tZok_198)))))) := ⟨⟨⟨⟨@tAgg_198, @tBytes_198⟩, ⟨@tCS_198, @tFld_198_0⟩⟩, ⟨⟨@tFld_198_1, @tFld_198_2⟩, ⟨@tKnown_198, @tOff_198_0⟩⟩⟩, ⟨⟨⟨@tOff_198_1, @tOff_198_2⟩, ⟨@tPlain_198, @tSize_198⟩⟩, ⟨⟨@tStruct_198_0, @tStruct_198_1⟩, ⟨@tStruct_198_2, ⟨@tZ_198, @tZok_198⟩⟩⟩⟩⟩
theorem y_210 : (((type_of% @tAgg_210) ∧ (type_of% @tCS_210)) ∧ ((type_of% @tKnown_210) ∧ ((type_of% @tNilK_210) ∧ (type_of% @tSize_210)))) := ⟨⟨@tAgg_210, @tCS_210⟩, ⟨@tKnown_210, ⟨@tNilK_210, @tSize_210⟩⟩⟩
theorem y_224 : ((type_of% @tElem_224) ∧ (type_of% @tSlice_224)) := ⟨@tElem_224, @tSlice_224⟩
theorem y_227 : ((type_of% @tElem_227) ∧ (type_of% @tSlice_227)) := ⟨@tElem_227, @tSlice_227⟩
theorem call_9 : Callable Tryz.prog 9 := callable_of Tryz.func9 (by kernel_rfl) (by kernel_rfl)
theorem call_10 : Callable Tryz.prog 10 := callable_of Tryz.func10 (by kernel_rfl) (by kernel_rfl)
theorem call_11 : Callable Tryz.prog 11 := callable_of Tryz.func11 (by kernel_rfl) (by kernel_rfl)
theorem call_12 : Callable Tryz.prog 12 := callable_of Tryz.func12 (by kernel_rfl) (by kernel_rfl)
theorem call_13 : Callable Tryz.prog 13 := callable_of Tryz.func13 (by kernel_rfl) (by kernel_rfl)
theorem call_14 : Callable Tryz.prog 14 := callable_of Tryz.func14 (by kernel_rfl) (by kernel_rfl)
theorem call_20 : Callable Tryz.prog 20 := callable_of Tryz.func20 (by kernel_rfl) (by kernel_rfl)
theorem call_21 : Callable Tryz.prog 21 := callable_of Tryz.func21 (by kernel_rfl) (by kernel_rfl)
theorem call_22 : Callable Tryz.prog 22 := callable_of Tryz.func22 (by kernel_rfl) (by kernel_rfl)
theorem call_23 : Callable Tryz.prog 23 := callable_of Tryz.func23 (by kernel_rfl) (by kernel_rfl)
theorem call_24 : Callable Tryz.prog 24 := callable_of Tryz.func24 (by kernel_rfl) (by kernel_rfl)
theorem call_26 : Callable Tryz.prog 26 := callable_of Tryz.func26 (by kernel_rfl) (by kernel_rfl)
theorem call_31 : Callable Tryz.prog 31 := callable_of Tryz.func31 (by kernel_rfl) (by kernel_rfl)
theorem call_32 : Callable Tryz.prog 32 := callable_of Tryz.func32 (by kernel_rfl) (by kernel_rfl)
theorem call_33 : Callable Tryz.prog 33 := callable_of Tryz.func33 (by kernel_rfl) (by kernel_rfl)
theorem call_34 : Callable Tryz.prog 34 := callable_of Tryz.func34 (by kernel_rfl) (by kernel_rfl)
theorem call_35 : Callable Tryz.prog 35 := callable_of Tryz.func35 (by kernel_rfl) (by kernel_rfl)
theorem call_36 : Callable Tryz.prog 36 := callable_of Tryz.func36 (by kernel_rfl) (by kernel_rfl)
theorem call_37 : Callable Tryz.prog 37 := callable_of Tryz.func37 (by kernel_rfl) (by kernel_rfl)
theorem call_38 : Callable Tryz.prog 38 := callable_of Tryz.func38 (by kernel_rfl) (by kernel_rfl)
theorem call_39 : Callable Tryz.prog 39 := callable_of Tryz.func39 (by kernel_rfl) (by kernel_rfl)
theorem call_46 : Callable Tryz.prog 46 := callable_of Tryz.func46 (by kernel_rfl) (by kernel_rfl)
theorem call_47 : Callable Tryz.prog 47 := callable_of Tryz.func47 (by kernel_rfl) (by kernel_rfl)
theorem call_48 : Callable Tryz.prog 48 := callable_of Tryz.func48 (by kernel_rfl) (by kernel_rfl)
theorem call_49 : Callable Tryz.prog 49 := callable_of Tryz.func49 (by kernel_rfl) (by kernel_rfl)
theorem call_50 : Callable Tryz.prog 50 := callable_of Tryz.func50 (by kernel_rfl) (by kernel_rfl)
theorem call_51 : Callable Tryz.prog 51 := callable_of Tryz.func51 (by kernel_rfl) (by kernel_rfl)
theorem call_52 : Callable Tryz.prog 52 := callable_of Tryz.func52 (by kernel_rfl) (by kernel_rfl)
theorem call_53 : Callable Tryz.prog 53 := callable_of Tryz.func53 (by kernel_rfl) (by kernel_rfl)
theorem call_54 : Callable Tryz.prog 54 := callable_of Tryz.func54 (by kernel_rfl) (by kernel_rfl)
theorem call_55 : Callable Tryz.prog 55 := callable_of Tryz.func55 (by kernel_rfl) (by kernel_rfl)
theorem call_56 : Callable Tryz.prog 56 := callable_of Tryz.func56 (by kernel_rfl) (by kernel_rfl)
theorem call_57 : Callable Tryz.prog 57 := callable_of Tryz.func57 (by kernel_rfl) (by kernel_rfl)
theorem call_58 : Callable Tryz.prog 58 := callable_of Tryz.func58 (by kernel_rfl) (by kernel_rfl)
theorem call_60 : Callable Tryz.prog 60 := callable_of Tryz.func60 (by kernel_rfl) (by kernel_rfl)
theorem call_66 : Callable Tryz.prog 66 := callable_of Tryz.func66 (by kernel_rfl) (by kernel_rfl)
theorem call_67 : Callable Tryz.prog 67 := callable_of Tryz.func67 (by kernel_rfl) (by kernel_rfl)
theorem call_68 : Callable Tryz.prog 68 := callable_of Tryz.func68 (by kernel_rfl) (by kernel_rfl)
theorem call_69 : Callable Tryz.prog 69 := callable_of Tryz.func69 (by kernel_rfl) (by kernel_rfl)
theorem call_70 : Callable Tryz.prog 70 := callable_of Tryz.func70 (by kernel_rfl) (by kernel_rfl)
theorem call_71 : Callable Tryz.prog 71 := callable_of Tryz.func71 (by kernel_rfl) (by kernel_rfl)
theorem call_72 : Callable Tryz.prog 72 := callable_of Tryz.func72 (by kernel_rfl) (by kernel_rfl)
theorem call_73 : Callable Tryz.prog 73 := callable_of Tryz.func73 (by kernel_rfl) (by kernel_rfl)
theorem call_74 : Callable Tryz.prog 74 := callable_of Tryz.func74 (by kernel_rfl) (by kernel_rfl)
theorem call_75 : Callable Tryz.prog 75 := callable_of Tryz.func75 (by kernel_rfl) (by kernel_rfl)
theorem call_76 : Callable Tryz.prog 76 := callable_of Tryz.func76 (by kernel_rfl) (by kernel_rfl)
theorem call_77 : Callable Tryz.prog 77 := callable_of Tryz.func77 (by kernel_rfl) (by kernel_rfl)
theorem call_78 : Callable Tryz.prog 78 := callable_of Tryz.func78 (by kernel_rfl) (by kernel_rfl)
theorem call_79 : Callable Tryz.prog 79 := callable_of Tryz.func79 (by kernel_rfl) (by kernel_rfl)
theorem call_80 : Callable Tryz.prog 80 := callable_of Tryz.func80 (by kernel_rfl) (by kernel_rfl)
theorem call_81 : Callable Tryz.prog 81 := callable_of Tryz.func81 (by kernel_rfl) (by kernel_rfl)
theorem call_85 : Callable Tryz.prog 85 := callable_of Tryz.func85 (by kernel_rfl) (by kernel_rfl)
theorem call_86 : Callable Tryz.prog 86 := callable_of Tryz.func86 (by kernel_rfl) (by kernel_rfl)
theorem call_90 : Callable Tryz.prog 90 := callable_of Tryz.func90 (by kernel_rfl) (by kernel_rfl)
theorem call_91 : Callable Tryz.prog 91 := callable_of Tryz.func91 (by kernel_rfl) (by kernel_rfl)
theorem call_100 : Callable Tryz.prog 100 := callable_of Tryz.func100 (by kernel_rfl) (by kernel_rfl)
theorem call_101 : Callable Tryz.prog 101 := callable_of Tryz.func101 (by kernel_rfl) (by kernel_rfl)
theorem call_102 : Callable Tryz.prog 102 := callable_of Tryz.func102 (by kernel_rfl) (by kernel_rfl)
theorem call_103 : Callable Tryz.prog 103 := callable_of Tryz.func103 (by kernel_rfl) (by kernel_rfl)
theorem call_104 : Callable Tryz.prog 104 := callable_of Tryz.func104 (by kernel_rfl) (by kernel_rfl)
theorem call_105 : Callable Tryz.prog 105 := callable_of Tryz.func105 (by kernel_rfl) (by kernel_rfl)
theorem call_106 : Callable Tryz.prog 106 := callable_of Tryz.func106 (by kernel_rfl) (by kernel_rfl)
theorem call_108 : Callable Tryz.prog 108 := callable_of Tryz.func108 (by kernel_rfl) (by kernel_rfl)
theorem call_109 : Callable Tryz.prog 109 := callable_of Tryz.func109 (by kernel_rfl) (by kernel_rfl)
theorem call_110 : Callable Tryz.prog 110 := callable_of Tryz.func110 (by kernel_rfl) (by kernel_rfl)
theorem call_114 : Callable Tryz.prog 114 := callable_of Tryz.func114 (by kernel_rfl) (by kernel_rfl)
theorem call_115 : Callable Tryz.prog 115 := callable_of Tryz.func115 (by kernel_rfl) (by kernel_rfl)
theorem call_116 : Callable Tryz.prog 116 := callable_of Tryz.func116 (by kernel_rfl) (by kernel_rfl)
theorem call_121 : Callable Tryz.prog 121 := callable_of Tryz.func121 (by kernel_rfl) (by kernel_rfl)
theorem call_122 : Callable Tryz.prog 122 := callable_of Tryz.func122 (by kernel_rfl) (by kernel_rfl)
theorem call_123 : Callable Tryz.prog 123 := callable_of Tryz.func123 (by kernel_rfl) (by kernel_rfl)
theorem call_124 : Callable Tryz.prog 124 := callable_of Tryz.func124 (by kernel_rfl) (by kernel_rfl)
theorem call_125 : Callable Tryz.prog 125 := callable_of Tryz.func125 (by kernel_rfl) (by kernel_rfl)
theorem call_126 : Callable Tryz.prog 126 := callable_of Tryz.func126 (by kernel_rfl) (by kernel_rfl)
theorem call_127 : Callable Tryz.prog 127 := callable_of Tryz.func127 (by kernel_rfl) (by kernel_rfl)
theorem call_128 : Callable Tryz.prog 128 := callable_of Tryz.func128 (by kernel_rfl) (by kernel_rfl)
theorem call_129 : Callable Tryz.prog 129 := callable_of Tryz.func129 (by kernel_rfl) (by kernel_rfl)
theorem call_130 : Callable Tryz.prog 130 := callable_of Tryz.func130 (by kernel_rfl) (by kernel_rfl)
theorem call_131 : Callable Tryz.prog 131 := callable_of Tryz.func131 (by kernel_rfl) (by kernel_rfl)
theorem call_132 : Callable Tryz.prog 132 := callable_of Tryz.func132 (by kernel_rfl) (by kernel_rfl)
theorem call_133 : Callable Tryz.prog 133 := callable_of Tryz.func133 (by kernel_rfl) (by kernel_rfl)
theorem call_138 : Callable Tryz.prog 138 := callable_of Tryz.func138 (by kernel_rfl) (by kernel_rfl)
theorem call_143 : Callable Tryz.prog 143 := callable_of Tryz.func143 (by kernel_rfl) (by kernel_rfl)
theorem call_144 : Callable Tryz.prog 144 := callable_of Tryz.func144 (by kernel_rfl) (by kernel_rfl)
theorem call_145 : Callable Tryz.prog 145 := callable_of Tryz.func145 (by kernel_rfl) (by kernel_rfl)
theorem call_146 : Callable Tryz.prog 146 := callable_of Tryz.func146 (by kernel_rfl) (by kernel_rfl)
theorem call_147 : Callable Tryz.prog 147 := callable_of Tryz.func147 (by kernel_rfl) (by kernel_rfl)
theorem call_148 : Callable Tryz.prog 148 := callable_of Tryz.func148 (by kernel_rfl) (by kernel_rfl)
theorem call_149 : Callable Tryz.prog 149 := callable_of Tryz.func149 (by kernel_rfl) (by kernel_rfl)
theorem call_159 : Callable Tryz.prog 159 := callable_of Tryz.func159 (by kernel_rfl) (by kernel_rfl)
theorem call_160 : Callable Tryz.prog 160 := callable_of Tryz.func160 (by kernel_rfl) (by kernel_rfl)
theorem call_161 : Callable Tryz.prog 161 := callable_of Tryz.func161 (by kernel_rfl) (by kernel_rfl)
theorem call_162 : Callable Tryz.prog 162 := callable_of Tryz.func162 (by kernel_rfl) (by kernel_rfl)
theorem call_163 : Callable Tryz.prog 163 := callable_of Tryz.func163 (by kernel_rfl) (by kernel_rfl)
theorem call_166 : Callable Tryz.prog 166 := callable_of Tryz.func166 (by kernel_rfl) (by kernel_rfl)
theorem call_167 : Callable Tryz.prog 167 := callable_of Tryz.func167 (by kernel_rfl) (by kernel_rfl)
theorem call_174 : Callable Tryz.prog 174 := callable_of Tryz.func174 (by kernel_rfl) (by kernel_rfl)
theorem call_177 : Callable Tryz.prog 177 := callable_of Tryz.func177 (by kernel_rfl) (by kernel_rfl)
theorem call_180 : Callable Tryz.prog 180 := callable_of Tryz.func180 (by kernel_rfl) (by kernel_rfl)
theorem u8s_map (l : List UInt8) : u8s l = List.map dU l := rfl
theorem mixed : Tryz.prog.follows .mixedOrders = true := Tryz.checked.mixed
theorem upd_at {α : Type} (σ : Nat → α) (d : Nat) (x : α) (i : Nat) : upd σ d x i = if i = d then x else σ i := rfl
theorem take_drop_all {α : Type} (l : List α) (i : Nat) : (l.drop i).take (l.length - i) = l.drop i := List.take_of_length_le (by simp)
theorem drop_map0 {α β : Type} (f : α → β) (l : List α) (i : Nat) : (l.map f).drop i = (l.drop i).map f := List.map_drop.symm
theorem take_map0 {α β : Type} (f : α → β) (l : List α) (i : Nat) : (l.map f).take i = (l.take i).map f := List.map_take.symm
theorem inrO_fin {S R : Type} {b : S → Option (S ⊕ R)} {n : Nat} {x : Option R} {o : S ⊕ R} {out : R} (h : inrO x = some o) (hF : Fin' b n o out) : x = some out := by
 obtain ⟨r, h1, rfl⟩ := inrO_some h
 cases hF
 exact h1
theorem inl_fin {S R : Type} {b : S → Option (S ⊕ R)} {n : Nat} {s : S} {o : S ⊕ R} {out : R} (h : (some (.inl s) : Option (S ⊕ R)) = some o) (hF : Fin' b n o out) : Fin' b n (.inl s) out := by
 obtain rfl := Option.some.inj h
 exact hF
end Go.Proofs.YtfkhlbhjhdpkoaaGreatDoor
